/-
  Proved: a part of the proof of the claim's statement (text Q3 of it).
  Conditions: none of ours.
-/
import Derived.Test.YtikmmigfdchcpaaDoorPeQ0
namespace Go.Proofs.YtikmmigfdchcpaaDoor.PP
open Go.RowKit Go.Proofs.YtikmmigfdchcpaaDoorW.PrintWords Go.Proofs.YtikmmigfdchcpaaDoorW.PrintLast Go.Proofs.YtikmmigfdchcpaaDoorW.PrintMore
set_option linter.unusedVariables false
set_option linter.unusedSimpArgs false
/-! ### zau: function 52 -/
mutual
def zau.j0 : Nat → ByteArray → Bool → Option (Bool)
 | 0, _, _ => none
 | k + 1, x0, x21 => if x21 = true then (some false) else (zau.l0 k x0 (x0.size : Int) 0)
def zau.l0 : Nat → ByteArray → Int → Int → Option (Bool)
 | 0, _, _, _ => none
 | k + 1, x0, x23, x24 => if x24 < x23 then (if 0 ≤ x24 then (if x24 < (x0.size : Int) then (if (bt x0 x24) ≥ 97 then (if (bt x0 x24) ≤ 122 then (zau.l0 k x0 x23 (wrap64 (x24 + 1))) else (if (bt x0 x24) ≥ 48 then (if (bt x0 x24) ≤ 57 then (zau.l0 k x0 x23 (wrap64 (x24 + 1))) else (if ((bt x0 x24) = 95) then (zau.l0 k x0 x23 (wrap64 (x24 + 1))) else (some false))) else (if ((bt x0 x24) = 95) then (zau.l0 k x0 x23 (wrap64 (x24 + 1))) else (some false)))) else (if (bt x0 x24) ≥ 48 then (if (bt x0 x24) ≤ 57 then (zau.l0 k x0 x23 (wrap64 (x24 + 1))) else (if ((bt x0 x24) = 95) then (zau.l0 k x0 x23 (wrap64 (x24 + 1))) else (some false))) else (if ((bt x0 x24) = 95) then (zau.l0 k x0 x23 (wrap64 (x24 + 1))) else (some false)))) else (none)) else (none)) else (some true)
end
def zau.f (k : Nat) (a0 : ByteArray) : Option (Bool) := if a0.toList = ([] : List UInt8) then (zau.j0 k a0 true) else (if (a0.size : Int) > 40 then (zau.j0 k a0 true) else (if 0 < (a0.size : Int) then (if (bt a0 0) < 97 then (zau.j0 k a0 true) else (zau.j0 k a0 (decide ((bt a0 0) > 122)))) else (none)))
set_option maxHeartbeats 8000000 in
set_option maxRecDepth 100000 in
theorem zau.calls (k : Nat) (a0 : ByteArray) (r : Bool) (w : World) (h : zau.f k a0 = some r) :
  Calls Tryd.prog 52 #[.string a0] w fun e w' => e = .returned (.bool r) ∧ zbb w w' := by
 have H : (if a0.toList = ([] : List UInt8) then (zau.j0 k a0 true) else (if (a0.size : Int) > 40 then (zau.j0 k a0 true) else (if 0 < (a0.size : Int) then (if (bt a0 0) < 97 then (zau.j0 k a0 true) else (zau.j0 k a0 (decide ((bt a0 0) > 122)))) else (none)))) = some r := h
 clear h
 have HC2 := zab.mk H
 clear H
 go_enter Tryd.func52, Tryd.ntmps52
 go_upto_region 1 with (fail)
 go_cut [21] (fun v21 wc => ∃ (kq : Nat) (x21_1 : Bool), v21 = .bool x21_1 ∧ zab (zau.j0 kq a0 x21_1 = some r) ∧ zab (kq ≤ k) ∧ zbb w wc)
 case first =>
  have H := HC2.out
  clear HC2
  by_cases c3 : a0.toList = ([] : List UInt8)
  ·rw [if_pos c3] at H
   have c3b0 : (a0.toList == ([] : List UInt8)) = true := beq_iff_eq.mpr c3
   have c3b1 : (a0.toList != ([] : List UInt8)) = false := bne_eq_false_iff_eq.mpr c3
   clear c3
   (first | rw [c3b0] | (simp only [i64_w]; rw [c3b0]) | skip)
   have H' := zab.mk H
   clear H
   go_wp2
   go_meet
   case rel => exact ⟨_, (true), (by first | rfl | (simp; done) | (simp [*]; done)), H', ⟨by first | omega | exact Nat.le_refl _⟩, by repeat (first | exact zbb.refl _ | apply zbb.step)⟩
  ·rw [if_neg c3] at H
   have c3b0 : (a0.toList == ([] : List UInt8)) = false := beq_eq_false_iff_ne.mpr c3
   have c3b1 : (a0.toList != ([] : List UInt8)) = true := bne_iff_ne.mpr c3
   (first | rw [c3b0] | (simp only [i64_w]; rw [c3b0]) | skip)
   by_cases c4 : (a0.size : Int) > 40
   ·rw [if_pos c4] at H
    have c4b0 : decide (40 < (a0.size : Int)) = true := decide_eq_true c4
    have c4b1 : decide (40 < a0.size) = true := decide_eq_true (by omega)
    clear c4
    have H' := zab.mk H
    clear H
    go_wp2
    go_meet
    case rel => exact ⟨_, (true), (by first | rfl | (simp; done) | (simp [*]; done)), H', ⟨by first | omega | exact Nat.le_refl _⟩, by repeat (first | exact zbb.refl _ | apply zbb.step)⟩
   ·rw [if_neg c4] at H
    have c4b0 : decide (40 < (a0.size : Int)) = false := decide_eq_false c4
    have c4b1 : decide (40 < a0.size) = false := decide_eq_false (by omega)
    clear c4
    by_cases c5 : 0 < (a0.size : Int)
    ·rw [if_pos c5] at H
     have c5b0 : decide (0 < (a0.size : Int)) = true := decide_eq_true c5
     have c5b1 : decide (0 < a0.size) = true := decide_eq_true (by omega)
     clear c5
     by_cases c7 : (bt a0 0) < 97
     ·rw [if_pos c7] at H
      have c7b0 : decide ((bt a0 0) < 97) = true := decide_eq_true c7
      clear c7
      have H' := zab.mk H
      clear H
      have p6 : 0 ≤ (0 : Int) := (by omega)
      have q6 : 0 < a0.size := (by have : (0 : Int) < (a0.size : Int) := of_decide_eq_true (by first | (with_reducible assumption) | assumption); omega)
      have hx6 : ∀ h : 0 < a0.size, ((a0[0]'h).toNat : Int) = bt a0 0 := bt_at a0 0
      clear p6
      have qi6 : (0 < (a0.size : Int)) = True := eq_true (of_decide_eq_true (by first | (with_reducible assumption) | assumption))
      replace q6 := eq_true q6
      go_wp2
      go_meet
      case rel => exact ⟨_, (true), (by first | rfl | (simp; done) | (simp [*]; done)), H', ⟨by first | omega | exact Nat.le_refl _⟩, by repeat (first | exact zbb.refl _ | apply zbb.step)⟩
     ·rw [if_neg c7] at H
      have c7b0 : decide ((bt a0 0) < 97) = false := decide_eq_false c7
      clear c7
      have H' := zab.mk H
      clear H
      have p6 : 0 ≤ (0 : Int) := (by omega)
      have q6 : 0 < a0.size := (by have : (0 : Int) < (a0.size : Int) := of_decide_eq_true (by first | (with_reducible assumption) | assumption); omega)
      have hx6 : ∀ h : 0 < a0.size, ((a0[0]'h).toNat : Int) = bt a0 0 := bt_at a0 0
      clear p6
      have qi6 : (0 < (a0.size : Int)) = True := eq_true (of_decide_eq_true (by first | (with_reducible assumption) | assumption))
      replace q6 := eq_true q6
      have p8 : 0 ≤ (0 : Int) := (by omega)
      have q8 : 0 < a0.size := (by have : (0 : Int) < (a0.size : Int) := of_decide_eq_true (by first | (with_reducible assumption) | assumption); omega)
      have hx8 : ∀ h : 0 < a0.size, ((a0[0]'h).toNat : Int) = bt a0 0 := bt_at a0 0
      clear p8
      have qi8 : (0 < (a0.size : Int)) = True := eq_true (of_decide_eq_true (by first | (with_reducible assumption) | assumption))
      replace q8 := eq_true q8
      go_wp2
      go_meet
      case rel => exact ⟨_, (decide ((bt a0 0) > 122)), (by first | rfl | (simp; done) | (simp [*]; done)), H', ⟨by first | omega | exact Nat.le_refl _⟩, by repeat (first | exact zbb.refl _ | apply zbb.step)⟩
    ·rw [if_neg c5] at H
     exact absurd H (by simp)
 case rest =>
  clear HC2
  try clear p2
  try clear c3
  try clear c3b0
  try clear c3b1
  try clear c4
  try clear c4b0
  try clear c4b1
  try clear c5
  try clear c5b0
  try clear c5b1
  try clear p6 p6
  try clear q6 q6
  try clear hx6
  try clear qi6
  try clear c7
  try clear c7b0
  try clear p8 p8
  try clear q8 q8
  try clear hx8
  try clear qi8
  obtain ⟨kq, x21_1, rfl, HA, HJ1, ⟨mc1, rfl⟩⟩ := hcut
  cases kq with
  | zero => exact absurd HA.out (by simp [zau.j0])
  | succ kj1 =>
   have H := HA.out
   clear HA
   simp only [zau.j0] at H
   by_cases c9 : x21_1 = true
   ·subst c9
    have H1 : (some false) = some r := by rw [if_pos rfl] at H; exact H
    clear H
    have H := H1
    clear H1
    obtain rfl := Option.some.inj H
    go_wp2
    go_ret
    exact ⟨by first | rfl | (simp; done) | (simp [*]; done), by repeat (first | exact zbb.refl _ | apply zbb.step)⟩
   ·replace c9 := Bool.eq_false_iff.mpr c9
    subst c9
    have H1 : (zau.l0 kj1 a0 (a0.size : Int) 0) = some r := by rw [if_neg (show ¬ (false = true) by decide)] at H; exact H
    clear H
    have H := H1
    clear H1
    have H' := zab.mk H
    clear H
    go_wp2
    go_loopg [24] kj1 (fun kq v24 w' => ∃ (x24_2 : Int), v24 = .int .i64 x24_2 ∧ zab (zau.l0 kq a0 (a0.size : Int) x24_2 = some r) ∧ zab (kq ≤ kj1) ∧ zbb w w')
    case atStart => exact ⟨(0), (by first | rfl | (simp; done) | (simp [*]; done)), H', ⟨Nat.le_refl _⟩, by repeat (first | exact zbb.refl _ | apply zbb.step)⟩
    case round =>
     clear H'
     try clear c1
     try clear p2 p2
     try clear c3
     try clear c3b0
     try clear c3b1
     try clear c4
     try clear c4b0
     try clear c4b1
     try clear c5
     try clear c5b0
     try clear c5b1
     try clear p6 p6
     try clear q6 q6
     try clear hx6
     try clear qi6
     try clear c7
     try clear c7b0
     try clear p8 p8
     try clear q8 q8
     try clear hx8
     try clear qi8
     try clear c9
     obtain ⟨x24_2, rfl, HA, HK2, ⟨m2, rfl⟩⟩ := hrel
     cases gk with
     | zero => exact absurd HA.out (by simp [zau.l0])
     | succ k2 =>
      have H := HA.out
      clear HA
      simp only [zau.l0] at H
      by_cases c10 : x24_2 < (a0.size : Int)
      ·rw [if_pos c10] at H
       have c10b0 : decide (x24_2 < (a0.size : Int)) = true := decide_eq_true c10
       clear c10
       by_cases c11 : 0 ≤ x24_2
       ·rw [if_pos c11] at H
        have c11b0 : decide (0 ≤ x24_2) = true := decide_eq_true c11
        clear c11
        by_cases c12 : x24_2 < (a0.size : Int)
        ·rw [if_pos c12] at H
         have c12b0 : decide (x24_2 < (a0.size : Int)) = true := decide_eq_true c12
         clear c12
         by_cases c14 : (bt a0 x24_2) ≥ 97
         ·rw [if_pos c14] at H
          have c14b0 : decide (97 ≤ (bt a0 x24_2)) = true := decide_eq_true c14
          clear c14
          by_cases c15 : (bt a0 x24_2) ≤ 122
          ·rw [if_pos c15] at H
           have c15b0 : decide ((bt a0 x24_2) ≤ 122) = true := decide_eq_true c15
           clear c15
           have H' := zab.mk H
           clear H
           have p13 : 0 ≤ (x24_2 : Int) := of_decide_eq_true (by first | (with_reducible assumption) | assumption)
           have q13 : x24_2 < (a0.size : Int) := of_decide_eq_true (by first | (with_reducible assumption) | assumption)
           have hx13 := bt_at a0 x24_2
           replace p13 := eq_true p13
           replace q13 := eq_true q13
           go_wp2
           go_roundg k2
           case measure => have := HJ1.out; have := HK2.out; omega
           case rel => exact ⟨(wrap64 (x24_2 + 1)), (by first | rfl | (simp; done) | (simp [*]; done)), H', ⟨by have := HJ1.out; have := HK2.out; omega⟩, by repeat (first | exact zbb.refl _ | apply zbb.step)⟩
          ·rw [if_neg c15] at H
           have c15b0 : decide ((bt a0 x24_2) ≤ 122) = false := decide_eq_false c15
           clear c15
           by_cases c16 : (bt a0 x24_2) ≥ 48
           ·rw [if_pos c16] at H
            have c16b0 : decide (48 ≤ (bt a0 x24_2)) = true := decide_eq_true c16
            clear c16
            by_cases c17 : (bt a0 x24_2) ≤ 57
            ·rw [if_pos c17] at H
             have c17b0 : decide ((bt a0 x24_2) ≤ 57) = true := decide_eq_true c17
             clear c17
             have H' := zab.mk H
             clear H
             have p13 : 0 ≤ (x24_2 : Int) := of_decide_eq_true (by first | (with_reducible assumption) | assumption)
             have q13 : x24_2 < (a0.size : Int) := of_decide_eq_true (by first | (with_reducible assumption) | assumption)
             have hx13 := bt_at a0 x24_2
             replace p13 := eq_true p13
             replace q13 := eq_true q13
             go_wp2
             go_roundg k2
             case measure => have := HJ1.out; have := HK2.out; omega
             case rel => exact ⟨(wrap64 (x24_2 + 1)), (by first | rfl | (simp; done) | (simp [*]; done)), H', ⟨by have := HJ1.out; have := HK2.out; omega⟩, by repeat (first | exact zbb.refl _ | apply zbb.step)⟩
            ·rw [if_neg c17] at H
             have c17b0 : decide ((bt a0 x24_2) ≤ 57) = false := decide_eq_false c17
             clear c17
             by_cases c18 : ((bt a0 x24_2) = 95)
             ·rw [if_pos c18] at H
              have c18b0 : ((bt a0 x24_2) == 95) = true := beq_iff_eq.mpr c18
              have c18b1 : ((bt a0 x24_2) != 95) = false := bne_eq_false_iff_eq.mpr c18
              clear c18
              have H' := zab.mk H
              clear H
              have p13 : 0 ≤ (x24_2 : Int) := of_decide_eq_true (by first | (with_reducible assumption) | assumption)
              have q13 : x24_2 < (a0.size : Int) := of_decide_eq_true (by first | (with_reducible assumption) | assumption)
              have hx13 := bt_at a0 x24_2
              replace p13 := eq_true p13
              replace q13 := eq_true q13
              go_wp2
              go_roundg k2
              case measure => have := HJ1.out; have := HK2.out; omega
              case rel => exact ⟨(wrap64 (x24_2 + 1)), (by first | rfl | (simp; done) | (simp [*]; done)), H', ⟨by have := HJ1.out; have := HK2.out; omega⟩, by repeat (first | exact zbb.refl _ | apply zbb.step)⟩
             ·rw [if_neg c18] at H
              have c18b0 : ((bt a0 x24_2) == 95) = false := beq_eq_false_iff_ne.mpr c18
              have c18b1 : ((bt a0 x24_2) != 95) = true := bne_iff_ne.mpr c18
              obtain rfl := Option.some.inj H
              have p13 : 0 ≤ (x24_2 : Int) := of_decide_eq_true (by first | (with_reducible assumption) | assumption)
              have q13 : x24_2 < (a0.size : Int) := of_decide_eq_true (by first | (with_reducible assumption) | assumption)
              have hx13 := bt_at a0 x24_2
              replace p13 := eq_true p13
              replace q13 := eq_true q13
              go_wp2
              go_ret
              exact ⟨by first | rfl | (simp; done) | (simp [*]; done), by repeat (first | exact zbb.refl _ | apply zbb.step)⟩
           ·rw [if_neg c16] at H
            have c16b0 : decide (48 ≤ (bt a0 x24_2)) = false := decide_eq_false c16
            clear c16
            by_cases c19 : ((bt a0 x24_2) = 95)
            ·rw [if_pos c19] at H
             have c19b0 : ((bt a0 x24_2) == 95) = true := beq_iff_eq.mpr c19
             have c19b1 : ((bt a0 x24_2) != 95) = false := bne_eq_false_iff_eq.mpr c19
             clear c19
             have H' := zab.mk H
             clear H
             have p13 : 0 ≤ (x24_2 : Int) := of_decide_eq_true (by first | (with_reducible assumption) | assumption)
             have q13 : x24_2 < (a0.size : Int) := of_decide_eq_true (by first | (with_reducible assumption) | assumption)
             have hx13 := bt_at a0 x24_2
             replace p13 := eq_true p13
             replace q13 := eq_true q13
             go_wp2
             go_roundg k2
             case measure => have := HJ1.out; have := HK2.out; omega
             case rel => exact ⟨(wrap64 (x24_2 + 1)), (by first | rfl | (simp; done) | (simp [*]; done)), H', ⟨by have := HJ1.out; have := HK2.out; omega⟩, by repeat (first | exact zbb.refl _ | apply zbb.step)⟩
            ·rw [if_neg c19] at H
             have c19b0 : ((bt a0 x24_2) == 95) = false := beq_eq_false_iff_ne.mpr c19
             have c19b1 : ((bt a0 x24_2) != 95) = true := bne_iff_ne.mpr c19
             obtain rfl := Option.some.inj H
             have p13 : 0 ≤ (x24_2 : Int) := of_decide_eq_true (by first | (with_reducible assumption) | assumption)
             have q13 : x24_2 < (a0.size : Int) := of_decide_eq_true (by first | (with_reducible assumption) | assumption)
             have hx13 := bt_at a0 x24_2
             replace p13 := eq_true p13
             replace q13 := eq_true q13
             go_wp2
             go_ret
             exact ⟨by first | rfl | (simp; done) | (simp [*]; done), by repeat (first | exact zbb.refl _ | apply zbb.step)⟩
         ·rw [if_neg c14] at H
          have c14b0 : decide (97 ≤ (bt a0 x24_2)) = false := decide_eq_false c14
          clear c14
          by_cases c20 : (bt a0 x24_2) ≥ 48
          ·rw [if_pos c20] at H
           have c20b0 : decide (48 ≤ (bt a0 x24_2)) = true := decide_eq_true c20
           clear c20
           by_cases c21 : (bt a0 x24_2) ≤ 57
           ·rw [if_pos c21] at H
            have c21b0 : decide ((bt a0 x24_2) ≤ 57) = true := decide_eq_true c21
            clear c21
            have H' := zab.mk H
            clear H
            have p13 : 0 ≤ (x24_2 : Int) := of_decide_eq_true (by first | (with_reducible assumption) | assumption)
            have q13 : x24_2 < (a0.size : Int) := of_decide_eq_true (by first | (with_reducible assumption) | assumption)
            have hx13 := bt_at a0 x24_2
            replace p13 := eq_true p13
            replace q13 := eq_true q13
            go_wp2
            go_roundg k2
            case measure => have := HJ1.out; have := HK2.out; omega
            case rel => exact ⟨(wrap64 (x24_2 + 1)), (by first | rfl | (simp; done) | (simp [*]; done)), H', ⟨by have := HJ1.out; have := HK2.out; omega⟩, by repeat (first | exact zbb.refl _ | apply zbb.step)⟩
           ·rw [if_neg c21] at H
            have c21b0 : decide ((bt a0 x24_2) ≤ 57) = false := decide_eq_false c21
            clear c21
            by_cases c22 : ((bt a0 x24_2) = 95)
            ·rw [if_pos c22] at H
             have c22b0 : ((bt a0 x24_2) == 95) = true := beq_iff_eq.mpr c22
             have c22b1 : ((bt a0 x24_2) != 95) = false := bne_eq_false_iff_eq.mpr c22
             clear c22
             have H' := zab.mk H
             clear H
             have p13 : 0 ≤ (x24_2 : Int) := of_decide_eq_true (by first | (with_reducible assumption) | assumption)
             have q13 : x24_2 < (a0.size : Int) := of_decide_eq_true (by first | (with_reducible assumption) | assumption)
             have hx13 := bt_at a0 x24_2
             replace p13 := eq_true p13
             replace q13 := eq_true q13
             go_wp2
             go_roundg k2
             case measure => have := HJ1.out; have := HK2.out; omega
             case rel => exact ⟨(wrap64 (x24_2 + 1)), (by first | rfl | (simp; done) | (simp [*]; done)), H', ⟨by have := HJ1.out; have := HK2.out; omega⟩, by repeat (first | exact zbb.refl _ | apply zbb.step)⟩
            ·rw [if_neg c22] at H
             have c22b0 : ((bt a0 x24_2) == 95) = false := beq_eq_false_iff_ne.mpr c22
             have c22b1 : ((bt a0 x24_2) != 95) = true := bne_iff_ne.mpr c22
             obtain rfl := Option.some.inj H
             have p13 : 0 ≤ (x24_2 : Int) := of_decide_eq_true (by first | (with_reducible assumption) | assumption)
             have q13 : x24_2 < (a0.size : Int) := of_decide_eq_true (by first | (with_reducible assumption) | assumption)
             have hx13 := bt_at a0 x24_2
             replace p13 := eq_true p13
             replace q13 := eq_true q13
             go_wp2
             go_ret
             exact ⟨by first | rfl | (simp; done) | (simp [*]; done), by repeat (first | exact zbb.refl _ | apply zbb.step)⟩
          ·rw [if_neg c20] at H
           have c20b0 : decide (48 ≤ (bt a0 x24_2)) = false := decide_eq_false c20
           clear c20
           by_cases c23 : ((bt a0 x24_2) = 95)
           ·rw [if_pos c23] at H
            have c23b0 : ((bt a0 x24_2) == 95) = true := beq_iff_eq.mpr c23
            have c23b1 : ((bt a0 x24_2) != 95) = false := bne_eq_false_iff_eq.mpr c23
            clear c23
            have H' := zab.mk H
            clear H
            have p13 : 0 ≤ (x24_2 : Int) := of_decide_eq_true (by first | (with_reducible assumption) | assumption)
            have q13 : x24_2 < (a0.size : Int) := of_decide_eq_true (by first | (with_reducible assumption) | assumption)
            have hx13 := bt_at a0 x24_2
            replace p13 := eq_true p13
            replace q13 := eq_true q13
            go_wp2
            go_roundg k2
            case measure => have := HJ1.out; have := HK2.out; omega
            case rel => exact ⟨(wrap64 (x24_2 + 1)), (by first | rfl | (simp; done) | (simp [*]; done)), H', ⟨by have := HJ1.out; have := HK2.out; omega⟩, by repeat (first | exact zbb.refl _ | apply zbb.step)⟩
           ·rw [if_neg c23] at H
            have c23b0 : ((bt a0 x24_2) == 95) = false := beq_eq_false_iff_ne.mpr c23
            have c23b1 : ((bt a0 x24_2) != 95) = true := bne_iff_ne.mpr c23
            obtain rfl := Option.some.inj H
            have p13 : 0 ≤ (x24_2 : Int) := of_decide_eq_true (by first | (with_reducible assumption) | assumption)
            have q13 : x24_2 < (a0.size : Int) := of_decide_eq_true (by first | (with_reducible assumption) | assumption)
            have hx13 := bt_at a0 x24_2
            replace p13 := eq_true p13
            replace q13 := eq_true q13
            go_wp2
            go_ret
            exact ⟨by first | rfl | (simp; done) | (simp [*]; done), by repeat (first | exact zbb.refl _ | apply zbb.step)⟩
        ·rw [if_neg c12] at H
         exact absurd H (by simp)
       ·rw [if_neg c11] at H
        exact absurd H (by simp)
      ·rw [if_neg c10] at H
       have c10b0 : decide (x24_2 < (a0.size : Int)) = false := decide_eq_false c10
       clear c10
       obtain rfl := Option.some.inj H
       go_wp2
       go_ret
       exact ⟨by first | rfl | (simp; done) | (simp [*]; done), by repeat (first | exact zbb.refl _ | apply zbb.step)⟩
end Go.Proofs.YtikmmigfdchcpaaDoor.PP
