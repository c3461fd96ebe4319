import Derived.Test.YtikmmigfdchcpaaDoorPbQ0
section
/-
  Proved: a part of the proof of the claim's statement (text Q35 of it).
  Conditions: none of ours.
-/
namespace Go.Proofs.YtikmmigfdchcpaaDoor.PP
open Go.RowKit Go.Proofs.YtikmmigfdchcpaaDoorW.PrintWords Go.Proofs.YtikmmigfdchcpaaDoorW.PrintLast Go.Proofs.YtikmmigfdchcpaaDoorW.PrintMore
set_option linter.unusedVariables false
set_option linter.unusedSimpArgs false
def zbg.l0 : Nat → Int → Bool → Int → Option (Bool)
 | 0, _, _, _ => none
 | k + 1, x0, x1, x5 => if x5 ≤ 122 then (if x0 = x5 then (some true) else (zbg.l0 k x0 x1 ((x5 + 1) % 256))) else (if x1 = true then (some false) else (if x0 = 95 then (some true) else (if x0 ≥ 48 then (some (decide (x0 ≤ 57))) else (some false))))
def zbg.f (k : Nat) (a0 : Int) (a1 : Bool) : Option (Bool) := zbg.l0 k a0 a1 97
set_option maxHeartbeats 8000000 in
set_option maxRecDepth 100000 in
theorem zbg.calls (k : Nat) (a0 : Int) (a1 : Bool) (r : Bool) (w : World) (h : zbg.f k a0 a1 = some r) :
  Calls Tryd.prog 55 #[.int .u8 a0, .bool a1] w fun e w' => e = .returned (.bool r) ∧ za5 w w' := by
 have H : (zbg.l0 k a0 a1 97) = some r := h
 clear h
 have H' := zae.mk H
 clear H
 go_enter Tryd.func55, Tryd.ntmps55
 go_wp2
 go_loopg [5] k (fun kq v5 w' => ∃ (x5_1 : Int), v5 = .int .u8 x5_1 ∧ zae (zbg.l0 kq a0 a1 x5_1 = some r) ∧ zae (kq ≤ k) ∧ za5 w w')
 case atStart => exact ⟨(97), (by first | rfl | (simp; done) | (simp [*]; done)), H', ⟨Nat.le_refl _⟩, by repeat (first | exact za5.refl _ | apply za5.step)⟩
 case round =>
  clear H'
  try clear p2
  obtain ⟨x5_1, rfl, HA, HK1, ⟨m1, rfl⟩⟩ := hrel
  cases gk with
  | zero => exact absurd HA.out (by simp [zbg.l0])
  | succ k1 =>
   have H := HA.out
   clear HA
   simp only [zbg.l0] at H
   by_cases c3 : x5_1 ≤ 122
   ·rw [if_pos c3] at H
    have c3b0 : decide (x5_1 ≤ 122) = true := decide_eq_true c3
    clear c3
    by_cases c4 : a0 = x5_1
    ·rw [if_pos c4] at H
     have c4b0 : (a0 == x5_1) = true := beq_iff_eq.mpr c4
     have c4b1 : (a0 != x5_1) = false := bne_eq_false_iff_eq.mpr c4
     clear c4
     obtain rfl := Option.some.inj H
     go_wp2
     go_ret
     exact ⟨by first | rfl | (simp; done) | (simp [*]; done), by repeat (first | exact za5.refl _ | apply za5.step)⟩
    ·rw [if_neg c4] at H
     have c4b0 : (a0 == x5_1) = false := beq_eq_false_iff_ne.mpr c4
     have c4b1 : (a0 != x5_1) = true := bne_iff_ne.mpr c4
     have H' := zae.mk H
     clear H
     go_wp2
     go_roundg k1
     case measure => have := HK1.out; omega
     case rel => exact ⟨((x5_1 + 1) % 256), (by first | rfl | (simp; done) | (simp [*]; done)), H', ⟨by have := HK1.out; omega⟩, by repeat (first | exact za5.refl _ | apply za5.step)⟩
   ·rw [if_neg c3] at H
    have c3b0 : decide (x5_1 ≤ 122) = false := decide_eq_false c3
    clear c3
    by_cases c5 : a1 = true
    ·subst c5
     have H1 : (some false) = some r := by rw [if_pos rfl] at H; exact H
     clear H
     have H := H1
     clear H1
     obtain rfl := Option.some.inj H
     go_wp2
     go_ret
     exact ⟨by first | rfl | (simp; done) | (simp [*]; done), by repeat (first | exact za5.refl _ | apply za5.step)⟩
    ·replace c5 := Bool.eq_false_iff.mpr c5
     subst c5
     have H1 : (if a0 = 95 then (some true) else (if a0 ≥ 48 then (some (decide (a0 ≤ 57))) else (some false))) = some r := by rw [if_neg (show ¬ (false = true) by decide)] at H; exact H
     clear H
     have H := H1
     clear H1
     by_cases c6 : a0 = 95
     ·rw [if_pos c6] at H
      have c6b0 : (a0 == 95) = true := beq_iff_eq.mpr c6
      have c6b1 : (a0 != 95) = false := bne_eq_false_iff_eq.mpr c6
      clear c6
      obtain rfl := Option.some.inj H
      go_wp2
      go_ret
      exact ⟨by first | rfl | (simp; done) | (simp [*]; done), by repeat (first | exact za5.refl _ | apply za5.step)⟩
     ·rw [if_neg c6] at H
      have c6b0 : (a0 == 95) = false := beq_eq_false_iff_ne.mpr c6
      have c6b1 : (a0 != 95) = true := bne_iff_ne.mpr c6
      by_cases c7 : a0 ≥ 48
      ·rw [if_pos c7] at H
       have c7b0 : decide (48 ≤ a0) = true := decide_eq_true c7
       clear c7
       obtain rfl := Option.some.inj H
       go_wp2
       go_ret
       exact ⟨by first | rfl | (simp; done) | (simp [*]; done), by repeat (first | exact za5.refl _ | apply za5.step)⟩
      ·rw [if_neg c7] at H
       have c7b0 : decide (48 ≤ a0) = false := decide_eq_false c7
       clear c7
       obtain rfl := Option.some.inj H
       go_wp2
       go_ret
       exact ⟨by first | rfl | (simp; done) | (simp [*]; done), by repeat (first | exact za5.refl _ | apply za5.step)⟩
end Go.Proofs.YtikmmigfdchcpaaDoor.PP
end
section
/-
  Proved: a part of the proof of the claim's statement (text Q36 of it).
  Conditions: none of ours.
-/
namespace Go.Proofs.YtikmmigfdchcpaaDoor.PP
open Go.RowKit Go.Proofs.YtikmmigfdchcpaaDoorW.PrintWords Go.Proofs.YtikmmigfdchcpaaDoorW.PrintLast Go.Proofs.YtikmmigfdchcpaaDoorW.PrintMore
set_option linter.unusedVariables false
set_option linter.unusedSimpArgs false
def zbf.l0 : Nat → ByteArray → Int → Option (Bool)
 | 0, _, _ => none
 | k + 1, x0, x3 => if x3 < (x0.size : Int) then (if 0 ≤ x3 then ((zbg.f k (bt x0 x3) (x3 == 0)).bind fun t195 => (if t195 = true then (zbf.l0 k x0 (wrap64 (x3 + 1))) else (some false))) else (none)) else (if (x0.size : Int) ≥ 1 then (some (decide ((x0.size : Int) ≤ 40))) else (some false))
def zbf.f (k : Nat) (a0 : ByteArray) : Option (Bool) := zbf.l0 k a0 0
set_option maxHeartbeats 8000000 in
set_option maxRecDepth 100000 in
theorem zbf.calls (k : Nat) (a0 : ByteArray) (r : Bool) (w : World) (h : zbf.f k a0 = some r) :
  Calls Tryd.prog 47 #[.string a0] w fun e w' => e = .returned (.bool r) ∧ za5 w w' := by
 have H : (zbf.l0 k a0 0) = some r := h
 clear h
 have H' := zae.mk H
 clear H
 go_enter Tryd.func47, Tryd.ntmps47
 go_wp2
 go_loopg [3] k (fun kq v3 w' => ∃ (x3_1 : Int), v3 = .int .i64 x3_1 ∧ zae (zbf.l0 kq a0 x3_1 = some r) ∧ zae (kq ≤ k) ∧ za5 w w')
 case atStart => exact ⟨(0), (by first | rfl | (simp; done) | (simp [*]; done)), H', ⟨Nat.le_refl _⟩, by repeat (first | exact za5.refl _ | apply za5.step)⟩
 case round =>
  clear H'
  obtain ⟨x3_1, rfl, HA, HK1, ⟨m1, rfl⟩⟩ := hrel
  cases gk with
  | zero => exact absurd HA.out (by simp [zbf.l0])
  | succ k1 =>
   have H := HA.out
   clear HA
   simp only [zbf.l0] at H
   by_cases c2 : x3_1 < (a0.size : Int)
   ·rw [if_pos c2] at H
    have c2b0 : decide (x3_1 < (a0.size : Int)) = true := decide_eq_true c2
    clear c2
    by_cases c3 : 0 ≤ x3_1
    ·rw [if_pos c3] at H
     have c3b0 : decide (0 ≤ x3_1) = true := decide_eq_true c3
     clear c3
     replace H := Option.bind_eq_some_iff.mp H
     obtain ⟨t195, A50, H⟩ := H
     replace H : (if t195 = true then (zbf.l0 k1 a0 (wrap64 (x3_1 + 1))) else (some false)) = some r := H
     have A5 := zae.mk A50
     clear A50
     by_cases c6 : t195 = true
     ·subst c6
      have H1 : (zbf.l0 k1 a0 (wrap64 (x3_1 + 1))) = some r := by rw [if_pos rfl] at H; exact H
      clear H
      have H := H1
      clear H1
      have H' := zae.mk H
      clear H
      have p4 : 0 ≤ (x3_1 : Int) := of_decide_eq_true (by first | (with_reducible assumption) | assumption)
      have q4 : x3_1 < (a0.size : Int) := of_decide_eq_true (by first | (with_reducible assumption) | assumption)
      have hx4 := bt_at a0 x3_1
      replace p4 := eq_true p4
      replace q4 := eq_true q4
      go_wp2_with (first | ((with_reducible refine za3 (f := 55) rfl ?_); refine zbv (some 15) rfl rfl Tryd.func55 (by kernel_rfl) rfl #[.int .u8 (bt a0 x3_1), .bool (x3_1 == 0)] rfl (by (try simp only [List.map_toArray, List.map_cons, List.map_nil]); first | done | rfl | (simp only [List.length_drop, List.length_take]; rfl)) ?_; (with_reducible refine (zbg.calls k1 (bt a0 x3_1) (x3_1 == 0) true _ A5.out).mono ?_); rintro e w' ⟨rfl, ⟨nd, rfl⟩⟩; refine ⟨_, rfl, ?_⟩))
      go_roundg k1
      case measure => have := HK1.out; omega
      case rel => exact ⟨(wrap64 (x3_1 + 1)), (by first | rfl | (simp; done) | (simp [*]; done)), H', ⟨by have := HK1.out; omega⟩, by repeat (first | exact za5.refl _ | apply za5.step)⟩
     ·replace c6 := Bool.eq_false_iff.mpr c6
      subst c6
      have H1 : (some false) = some r := by rw [if_neg (show ¬ (false = true) by decide)] at H; exact H
      clear H
      have H := H1
      clear H1
      obtain rfl := Option.some.inj H
      have p4 : 0 ≤ (x3_1 : Int) := of_decide_eq_true (by first | (with_reducible assumption) | assumption)
      have q4 : x3_1 < (a0.size : Int) := of_decide_eq_true (by first | (with_reducible assumption) | assumption)
      have hx4 := bt_at a0 x3_1
      replace p4 := eq_true p4
      replace q4 := eq_true q4
      go_wp2_with (first | ((with_reducible refine za3 (f := 55) rfl ?_); refine zbv (some 15) rfl rfl Tryd.func55 (by kernel_rfl) rfl #[.int .u8 (bt a0 x3_1), .bool (x3_1 == 0)] rfl (by (try simp only [List.map_toArray, List.map_cons, List.map_nil]); first | done | rfl | (simp only [List.length_drop, List.length_take]; rfl)) ?_; (with_reducible refine (zbg.calls k1 (bt a0 x3_1) (x3_1 == 0) false _ A5.out).mono ?_); rintro e w' ⟨rfl, ⟨nd, rfl⟩⟩; refine ⟨_, rfl, ?_⟩))
      go_ret
      exact ⟨by first | rfl | (simp; done) | (simp [*]; done), by repeat (first | exact za5.refl _ | apply za5.step)⟩
    ·rw [if_neg c3] at H
     exact absurd H (by simp)
   ·rw [if_neg c2] at H
    have c2b0 : decide (x3_1 < (a0.size : Int)) = false := decide_eq_false c2
    clear c2
    by_cases c7 : (a0.size : Int) ≥ 1
    ·rw [if_pos c7] at H
     have c7b0 : decide (1 ≤ (a0.size : Int)) = true := decide_eq_true c7
     have c7b1 : decide (1 ≤ a0.size) = true := decide_eq_true (by omega)
     clear c7
     obtain rfl := Option.some.inj H
     go_wp2
     go_ret
     exact ⟨by first | rfl | (simp; done) | (simp [*]; done), by repeat (first | exact za5.refl _ | apply za5.step)⟩
    ·rw [if_neg c7] at H
     have c7b0 : decide (1 ≤ (a0.size : Int)) = false := decide_eq_false c7
     have c7b1 : decide (1 ≤ a0.size) = false := decide_eq_false (by omega)
     clear c7
     obtain rfl := Option.some.inj H
     go_wp2
     go_ret
     exact ⟨by first | rfl | (simp; done) | (simp [*]; done), by repeat (first | exact za5.refl _ | apply za5.step)⟩
end Go.Proofs.YtikmmigfdchcpaaDoor.PP
end
section
/-
  Proved: a part of the proof of the claim's statement (text Q39 of it).
  Conditions: none of ours.
-/
namespace Go.Proofs.YtikmmigfdchcpaaDoor.PP
open Go.RowKit Go.Proofs.YtikmmigfdchcpaaDoorW.PrintWords Go.Proofs.YtikmmigfdchcpaaDoorW.PrintLast Go.Proofs.YtikmmigfdchcpaaDoorW.PrintMore
set_option linter.unusedVariables false
set_option linter.unusedSimpArgs false
def zbz.f (a0 : Int) : Option (ByteArray) := if a0 = 1 then (some (⟨#[114, 101, 103]⟩ : ByteArray)) else (if a0 = 2 then (some (⟨#[99, 97, 115]⟩ : ByteArray)) else (if a0 = 3 then (some (⟨#[115, 101, 116]⟩ : ByteArray)) else (if a0 = 4 then (some (⟨#[109, 97, 112]⟩ : ByteArray)) else (if a0 = 5 then (some (⟨#[102, 105, 102, 111]⟩ : ByteArray)) else (if a0 = 6 then (some (⟨#[115, 116, 97, 99, 107]⟩ : ByteArray)) else (if a0 = 7 then (some (⟨#[108, 111, 99, 107]⟩ : ByteArray)) else (if a0 = 8 then (some (⟨#[99, 111, 117, 110, 116]⟩ : ByteArray)) else (if a0 = 9 then (some (⟨#[109, 97, 120]⟩ : ByteArray)) else (if a0 = 10 then (some (⟨#[111, 109, 97, 112]⟩ : ByteArray)) else (some (⟨#[]⟩ : ByteArray)))))))))))
set_option maxHeartbeats 8000000 in
set_option maxRecDepth 100000 in
theorem zbz.calls (a0 : Int) (r : ByteArray) (w : World) (h : zbz.f a0 = some r) :
  Calls Tryd.prog 48 #[.int .i64 a0] w fun e w' => e = .returned (.string r) ∧ za5 w w' := by
 have H : (if a0 = 1 then (some (⟨#[114, 101, 103]⟩ : ByteArray)) else (if a0 = 2 then (some (⟨#[99, 97, 115]⟩ : ByteArray)) else (if a0 = 3 then (some (⟨#[115, 101, 116]⟩ : ByteArray)) else (if a0 = 4 then (some (⟨#[109, 97, 112]⟩ : ByteArray)) else (if a0 = 5 then (some (⟨#[102, 105, 102, 111]⟩ : ByteArray)) else (if a0 = 6 then (some (⟨#[115, 116, 97, 99, 107]⟩ : ByteArray)) else (if a0 = 7 then (some (⟨#[108, 111, 99, 107]⟩ : ByteArray)) else (if a0 = 8 then (some (⟨#[99, 111, 117, 110, 116]⟩ : ByteArray)) else (if a0 = 9 then (some (⟨#[109, 97, 120]⟩ : ByteArray)) else (if a0 = 10 then (some (⟨#[111, 109, 97, 112]⟩ : ByteArray)) else (some (⟨#[]⟩ : ByteArray)))))))))))) = some r := h
 clear h
 by_cases c2 : a0 = 1
 ·rw [if_pos c2] at H
  have c2b0 : (a0 == 1) = true := beq_iff_eq.mpr c2
  have c2b1 : (a0 != 1) = false := bne_eq_false_iff_eq.mpr c2
  clear c2
  obtain rfl := Option.some.inj H
  go_enter Tryd.func48, Tryd.ntmps48
  go_wp2
  go_ret
  exact ⟨by first | rfl | (simp; done) | (simp [*]; done), by repeat (first | exact za5.refl _ | apply za5.step)⟩
 ·rw [if_neg c2] at H
  have c2b0 : (a0 == 1) = false := beq_eq_false_iff_ne.mpr c2
  have c2b1 : (a0 != 1) = true := bne_iff_ne.mpr c2
  by_cases c3 : a0 = 2
  ·rw [if_pos c3] at H
   have c3b0 : (a0 == 2) = true := beq_iff_eq.mpr c3
   have c3b1 : (a0 != 2) = false := bne_eq_false_iff_eq.mpr c3
   clear c3
   obtain rfl := Option.some.inj H
   go_enter Tryd.func48, Tryd.ntmps48
   go_wp2
   go_ret
   exact ⟨by first | rfl | (simp; done) | (simp [*]; done), by repeat (first | exact za5.refl _ | apply za5.step)⟩
  ·rw [if_neg c3] at H
   have c3b0 : (a0 == 2) = false := beq_eq_false_iff_ne.mpr c3
   have c3b1 : (a0 != 2) = true := bne_iff_ne.mpr c3
   by_cases c4 : a0 = 3
   ·rw [if_pos c4] at H
    have c4b0 : (a0 == 3) = true := beq_iff_eq.mpr c4
    have c4b1 : (a0 != 3) = false := bne_eq_false_iff_eq.mpr c4
    clear c4
    obtain rfl := Option.some.inj H
    go_enter Tryd.func48, Tryd.ntmps48
    go_wp2
    go_ret
    exact ⟨by first | rfl | (simp; done) | (simp [*]; done), by repeat (first | exact za5.refl _ | apply za5.step)⟩
   ·rw [if_neg c4] at H
    have c4b0 : (a0 == 3) = false := beq_eq_false_iff_ne.mpr c4
    have c4b1 : (a0 != 3) = true := bne_iff_ne.mpr c4
    by_cases c5 : a0 = 4
    ·rw [if_pos c5] at H
     have c5b0 : (a0 == 4) = true := beq_iff_eq.mpr c5
     have c5b1 : (a0 != 4) = false := bne_eq_false_iff_eq.mpr c5
     clear c5
     obtain rfl := Option.some.inj H
     go_enter Tryd.func48, Tryd.ntmps48
     go_wp2
     go_ret
     exact ⟨by first | rfl | (simp; done) | (simp [*]; done), by repeat (first | exact za5.refl _ | apply za5.step)⟩
    ·rw [if_neg c5] at H
     have c5b0 : (a0 == 4) = false := beq_eq_false_iff_ne.mpr c5
     have c5b1 : (a0 != 4) = true := bne_iff_ne.mpr c5
     by_cases c6 : a0 = 5
     ·rw [if_pos c6] at H
      have c6b0 : (a0 == 5) = true := beq_iff_eq.mpr c6
      have c6b1 : (a0 != 5) = false := bne_eq_false_iff_eq.mpr c6
      clear c6
      obtain rfl := Option.some.inj H
      go_enter Tryd.func48, Tryd.ntmps48
      go_wp2
      go_ret
      exact ⟨by first | rfl | (simp; done) | (simp [*]; done), by repeat (first | exact za5.refl _ | apply za5.step)⟩
     ·rw [if_neg c6] at H
      have c6b0 : (a0 == 5) = false := beq_eq_false_iff_ne.mpr c6
      have c6b1 : (a0 != 5) = true := bne_iff_ne.mpr c6
      by_cases c7 : a0 = 6
      ·rw [if_pos c7] at H
       have c7b0 : (a0 == 6) = true := beq_iff_eq.mpr c7
       have c7b1 : (a0 != 6) = false := bne_eq_false_iff_eq.mpr c7
       clear c7
       obtain rfl := Option.some.inj H
       go_enter Tryd.func48, Tryd.ntmps48
       go_wp2
       go_ret
       exact ⟨by first | rfl | (simp; done) | (simp [*]; done), by repeat (first | exact za5.refl _ | apply za5.step)⟩
      ·rw [if_neg c7] at H
       have c7b0 : (a0 == 6) = false := beq_eq_false_iff_ne.mpr c7
       have c7b1 : (a0 != 6) = true := bne_iff_ne.mpr c7
       by_cases c8 : a0 = 7
       ·rw [if_pos c8] at H
        have c8b0 : (a0 == 7) = true := beq_iff_eq.mpr c8
        have c8b1 : (a0 != 7) = false := bne_eq_false_iff_eq.mpr c8
        clear c8
        obtain rfl := Option.some.inj H
        go_enter Tryd.func48, Tryd.ntmps48
        go_wp2
        go_ret
        exact ⟨by first | rfl | (simp; done) | (simp [*]; done), by repeat (first | exact za5.refl _ | apply za5.step)⟩
       ·rw [if_neg c8] at H
        have c8b0 : (a0 == 7) = false := beq_eq_false_iff_ne.mpr c8
        have c8b1 : (a0 != 7) = true := bne_iff_ne.mpr c8
        by_cases c9 : a0 = 8
        ·rw [if_pos c9] at H
         have c9b0 : (a0 == 8) = true := beq_iff_eq.mpr c9
         have c9b1 : (a0 != 8) = false := bne_eq_false_iff_eq.mpr c9
         clear c9
         obtain rfl := Option.some.inj H
         go_enter Tryd.func48, Tryd.ntmps48
         go_wp2
         go_ret
         exact ⟨by first | rfl | (simp; done) | (simp [*]; done), by repeat (first | exact za5.refl _ | apply za5.step)⟩
        ·rw [if_neg c9] at H
         have c9b0 : (a0 == 8) = false := beq_eq_false_iff_ne.mpr c9
         have c9b1 : (a0 != 8) = true := bne_iff_ne.mpr c9
         by_cases c10 : a0 = 9
         ·rw [if_pos c10] at H
          have c10b0 : (a0 == 9) = true := beq_iff_eq.mpr c10
          have c10b1 : (a0 != 9) = false := bne_eq_false_iff_eq.mpr c10
          clear c10
          obtain rfl := Option.some.inj H
          go_enter Tryd.func48, Tryd.ntmps48
          go_wp2
          go_ret
          exact ⟨by first | rfl | (simp; done) | (simp [*]; done), by repeat (first | exact za5.refl _ | apply za5.step)⟩
         ·rw [if_neg c10] at H
          have c10b0 : (a0 == 9) = false := beq_eq_false_iff_ne.mpr c10
          have c10b1 : (a0 != 9) = true := bne_iff_ne.mpr c10
          by_cases c11 : a0 = 10
          ·rw [if_pos c11] at H
           have c11b0 : (a0 == 10) = true := beq_iff_eq.mpr c11
           have c11b1 : (a0 != 10) = false := bne_eq_false_iff_eq.mpr c11
           clear c11
           obtain rfl := Option.some.inj H
           go_enter Tryd.func48, Tryd.ntmps48
           go_wp2
           go_ret
           exact ⟨by first | rfl | (simp; done) | (simp [*]; done), by repeat (first | exact za5.refl _ | apply za5.step)⟩
          ·rw [if_neg c11] at H
           have c11b0 : (a0 == 10) = false := beq_eq_false_iff_ne.mpr c11
           have c11b1 : (a0 != 10) = true := bne_iff_ne.mpr c11
           obtain rfl := Option.some.inj H
           go_enter Tryd.func48, Tryd.ntmps48
           go_wp2
           go_ret
           exact ⟨by first | rfl | (simp; done) | (simp [*]; done), by repeat (first | exact za5.refl _ | apply za5.step)⟩
end Go.Proofs.YtikmmigfdchcpaaDoor.PP
end
