/-
  Proved: a part of the proof of the claim's statement (text Q34 of it).
  Conditions: none of ours.
-/
import Derived.Test.YtikmmigfdchcpaaDoorPeQ0
import Derived.Test.YtikmmigfdchcpaaDoorPeQ33
namespace Go.Proofs.YtikmmigfdchcpaaDoor.PP
open Go.RowKit Go.Proofs.YtikmmigfdchcpaaDoorW.PrintWords Go.Proofs.YtikmmigfdchcpaaDoorW.PrintLast Go.Proofs.YtikmmigfdchcpaaDoorW.PrintMore
set_option linter.unusedVariables false
set_option linter.unusedSimpArgs false
def za0.l0 : Nat → List (S47) → Int → Option (Bool)
 | 0, _, _ => none
 | k + 1, x0, x5 => if x5 < (x0.length : Int) then (if 0 ≤ x5 then ((zap.f k ((zav x0 x5).f0) ((zav x0 x5).f1.f0) ((zav x0 x5).f1.f1) ((zav x0 x5).f1.f2) ((zav x0 x5).f2) ((zav x0 x5).f3) ((zav x0 x5).f4.f0) ((zav x0 x5).f4.f1) ((zav x0 x5).f4.f2) ((zav x0 x5).f5) ((zav x0 x5).f6) ((zav x0 x5).f7) ((zav x0 x5).f8) ((zav x0 x5).f9)).bind fun t194 => (if t194 = true then (some true) else (za0.l0 k x0 (wrap64 (x5 + 1))))) else (none)) else (some false)
def za0.f (k : Nat) (l0 : List (S47)) (a1 : Int) : Option (Bool) := if (l0.length : Int) > a1 then (some true) else (za0.l0 k l0 0)
set_option maxHeartbeats 8000000 in
set_option maxRecDepth 100000 in
theorem za0.calls (k : Nat) (A0 : Option Addr) (c0 : Nat) (l0 : List (S47)) (a1 : Int) (r : Bool) (w : World) (hr0 : Kd.C k47 w A0 l0.length l0) (hc0 : l0.length ≤ c0) (h : za0.f k l0 a1 = some r) :
  Calls Tryd.prog 9 #[.slice A0 l0.length c0, .int .i64 a1] w fun e w' => e = .returned (.bool r) ∧ Below w.heap.size w w' := by
 have hu47 := Tryd.underlying47
 have HR0 := zab.mk hr0
 have HC0 := zab.mk hc0
 clear hr0 hc0
 have HB := zab.mk (Below.refl w.heap.size w)
 have H : (if (l0.length : Int) > a1 then (some true) else (za0.l0 k l0 0)) = some r := h
 clear h
 by_cases c3 : (l0.length : Int) > a1
 ·rw [if_pos c3] at H
  have c3b0 : decide (a1 < (l0.length : Int)) = true := decide_eq_true c3
  clear c3
  obtain rfl := Option.some.inj H
  go_enter Tryd.func9, Tryd.ntmps9
  go_wp2
  go_ret
  exact ⟨by first | rfl | (simp [zao, zan] <;> rfl) | (simp [*, zao, zan] <;> rfl), by repeat with_reducible first | exact HB.out | apply zac | apply zaa | apply zad⟩
 ·rw [if_neg c3] at H
  have c3b0 : decide (a1 < (l0.length : Int)) = false := decide_eq_false c3
  clear c3
  have H' := zab.mk H
  clear H
  go_enter Tryd.func9, Tryd.ntmps9
  go_wp2
  go_loopg [5] k (fun kq v5 w' => ∃ (x5_1 : Int), v5 = .int .i64 x5_1 ∧ zab (za0.l0 kq l0 x5_1 = some r) ∧ zab (kq ≤ k) ∧ zab (Below w.heap.size w w'))
  case atStart => exact ⟨(0), (by first | rfl | (simp; done) | (simp [*]; done)), H', ⟨Nat.le_refl _⟩, ⟨by repeat with_reducible first | exact HB.out | apply zac | apply zaa | apply zad⟩⟩
  case round =>
   clear H'
   try clear p2
   try clear c3
   try clear c3b0
   obtain ⟨x5_1, rfl, HA, HK1, HB⟩ := hrel
   cases gk with
   | zero => exact absurd HA.out (by simp [za0.l0])
   | succ k1 =>
    have H := HA.out
    clear HA
    simp only [za0.l0] at H
    by_cases c4 : x5_1 < (l0.length : Int)
    ·rw [if_pos c4] at H
     have c4b0 : decide (x5_1 < (l0.length : Int)) = true := decide_eq_true c4
     clear c4
     by_cases c5 : 0 ≤ x5_1
     ·rw [if_pos c5] at H
      have c5b0 : decide (0 ≤ x5_1) = true := decide_eq_true c5
      clear c5
      replace H := Option.bind_eq_some_iff.mp H
      obtain ⟨t194, A60, H⟩ := H
      replace H : (if t194 = true then (some true) else (za0.l0 k1 l0 (wrap64 (x5_1 + 1)))) = some r := H
      have A6 := zab.mk A60
      clear A60
      by_cases c7 : t194 = true
      ·subst c7
       have H1 : (some true) = some r := by rw [if_pos rfl] at H; exact H
       clear H
       have H := H1
       clear H1
       obtain rfl := Option.some.inj H
       have p193 : 0 ≤ (x5_1 : Int) := of_decide_eq_true (by first | (with_reducible assumption) | assumption)
       have q193 : x5_1 < (l0.length : Int) := of_decide_eq_true (by first | (with_reducible assumption) | assumption)
       obtain ⟨ad193, A193_10, c193_10, A193_11, c193_11, e193, hx193_0, hx193_1, hx193_2, hx193_3, hx193_4, hx193_5, hx193_6, hx193_7, hx193_8, hx193_9, hx193_10, hx193_11, hx193_12, hx193_13, hl193_10, hi193_10, hl193_11, hi193_11⟩ := at_T47 HR0.out x5_1 p193 q193
       cases e193
       replace hx193_0 := zaf HB.out hx193_0
       replace hx193_1 := zaf HB.out hx193_1
       replace hx193_2 := zaf HB.out hx193_2
       replace hx193_3 := zaf HB.out hx193_3
       replace hx193_4 := zaf HB.out hx193_4
       replace hx193_5 := zaf HB.out hx193_5
       replace hx193_6 := zaf HB.out hx193_6
       replace hx193_7 := zaf HB.out hx193_7
       replace hx193_8 := zaf HB.out hx193_8
       replace hx193_9 := zaf HB.out hx193_9
       replace hx193_10 := zaf HB.out hx193_10
       replace hx193_11 := zaf HB.out hx193_11
       replace hx193_12 := zaf HB.out hx193_12
       replace hx193_13 := zaf HB.out hx193_13
       have HR193_10 := zab.mk hi193_10
       have HC193_10 := zab.mk hl193_10
       clear hi193_10 hl193_10
       have HR193_11 := zab.mk hi193_11
       have HC193_11 := zab.mk hl193_11
       clear hi193_11 hl193_11
       replace p193 := eq_true p193
       replace q193 := eq_true q193
       go_wp2_with (first | ((with_reducible refine za6 (f := 19) rfl ?_); refine zbo (some 20) rfl rfl Tryd.func19 (by kernel_rfl) rfl #[.agg #[.int .i64 ((zav l0 x5_1).f0), .int .i64 ((zav l0 x5_1).f1.f0), .int .i64 ((zav l0 x5_1).f1.f1), .string ((zav l0 x5_1).f1.f2), .int .i64 ((zav l0 x5_1).f2), .int .i64 ((zav l0 x5_1).f3), .int .i64 ((zav l0 x5_1).f4.f0), .int .i64 ((zav l0 x5_1).f4.f1), .string ((zav l0 x5_1).f4.f2), .int .i64 ((zav l0 x5_1).f5), .slice A193_10 ((zav l0 x5_1).f6).length c193_10, .slice A193_11 ((zav l0 x5_1).f7).length c193_11, .bool ((zav l0 x5_1).f8), .string ((zav l0 x5_1).f9)]] rfl (by (try simp only [List.map_toArray, List.map_cons, List.map_nil]); first | done | rfl | (simp only [List.length_drop, List.length_take]; rfl)) ?_; (with_reducible refine (zap.calls k1 ((zav l0 x5_1).f0) ((zav l0 x5_1).f1.f0) ((zav l0 x5_1).f1.f1) ((zav l0 x5_1).f1.f2) ((zav l0 x5_1).f2) ((zav l0 x5_1).f3) ((zav l0 x5_1).f4.f0) ((zav l0 x5_1).f4.f1) ((zav l0 x5_1).f4.f2) ((zav l0 x5_1).f5) _ _ ((zav l0 x5_1).f6) _ _ ((zav l0 x5_1).f7) ((zav l0 x5_1).f8) ((zav l0 x5_1).f9) true _ ?side1 ?side2 ?side3 ?side4 A6.out).mono ?_); (case side1 => repeat (first | exact (Kd.za9 HR193_10.out HB.out) | (with_reducible refine Kd.zbn ?_ _) | (with_reducible refine Kd.C_drewN ?_ _) | (with_reducible refine Kd.C_drew ?_))); (case side2 => exact HC193_10.out); (case side3 => repeat (first | exact (Kd.za9 HR193_11.out HB.out) | (with_reducible refine Kd.zbn ?_ _) | (with_reducible refine Kd.C_drewN ?_ _) | (with_reducible refine Kd.C_drew ?_))); (case side4 => exact HC193_11.out); rintro e w8 ⟨rfl, hb⟩; refine ⟨_, rfl, ?_⟩; have n0_ := zab.mk (zal (by repeat with_reducible first | exact HB.out | apply zac | apply zaa | apply zad) hb); clear HB; have HB := n0_; clear n0_; (try clear hb); (try clear hb2); (try clear hk); (try clear hi)))
       go_ret
       exact ⟨by first | rfl | (simp [zao, zan] <;> rfl) | (simp [*, zao, zan] <;> rfl), by repeat with_reducible first | exact HB.out | apply zac | apply zaa | apply zad⟩
      ·replace c7 := Bool.eq_false_iff.mpr c7
       subst c7
       have H1 : (za0.l0 k1 l0 (wrap64 (x5_1 + 1))) = some r := by rw [if_neg (show ¬ (false = true) by decide)] at H; exact H
       clear H
       have H := H1
       clear H1
       have H' := zab.mk H
       clear H
       have p193 : 0 ≤ (x5_1 : Int) := of_decide_eq_true (by first | (with_reducible assumption) | assumption)
       have q193 : x5_1 < (l0.length : Int) := of_decide_eq_true (by first | (with_reducible assumption) | assumption)
       obtain ⟨ad193, A193_10, c193_10, A193_11, c193_11, e193, hx193_0, hx193_1, hx193_2, hx193_3, hx193_4, hx193_5, hx193_6, hx193_7, hx193_8, hx193_9, hx193_10, hx193_11, hx193_12, hx193_13, hl193_10, hi193_10, hl193_11, hi193_11⟩ := at_T47 HR0.out x5_1 p193 q193
       cases e193
       replace hx193_0 := zaf HB.out hx193_0
       replace hx193_1 := zaf HB.out hx193_1
       replace hx193_2 := zaf HB.out hx193_2
       replace hx193_3 := zaf HB.out hx193_3
       replace hx193_4 := zaf HB.out hx193_4
       replace hx193_5 := zaf HB.out hx193_5
       replace hx193_6 := zaf HB.out hx193_6
       replace hx193_7 := zaf HB.out hx193_7
       replace hx193_8 := zaf HB.out hx193_8
       replace hx193_9 := zaf HB.out hx193_9
       replace hx193_10 := zaf HB.out hx193_10
       replace hx193_11 := zaf HB.out hx193_11
       replace hx193_12 := zaf HB.out hx193_12
       replace hx193_13 := zaf HB.out hx193_13
       have HR193_10 := zab.mk hi193_10
       have HC193_10 := zab.mk hl193_10
       clear hi193_10 hl193_10
       have HR193_11 := zab.mk hi193_11
       have HC193_11 := zab.mk hl193_11
       clear hi193_11 hl193_11
       replace p193 := eq_true p193
       replace q193 := eq_true q193
       go_wp2_with (first | ((with_reducible refine za6 (f := 19) rfl ?_); refine zbo (some 20) rfl rfl Tryd.func19 (by kernel_rfl) rfl #[.agg #[.int .i64 ((zav l0 x5_1).f0), .int .i64 ((zav l0 x5_1).f1.f0), .int .i64 ((zav l0 x5_1).f1.f1), .string ((zav l0 x5_1).f1.f2), .int .i64 ((zav l0 x5_1).f2), .int .i64 ((zav l0 x5_1).f3), .int .i64 ((zav l0 x5_1).f4.f0), .int .i64 ((zav l0 x5_1).f4.f1), .string ((zav l0 x5_1).f4.f2), .int .i64 ((zav l0 x5_1).f5), .slice A193_10 ((zav l0 x5_1).f6).length c193_10, .slice A193_11 ((zav l0 x5_1).f7).length c193_11, .bool ((zav l0 x5_1).f8), .string ((zav l0 x5_1).f9)]] rfl (by (try simp only [List.map_toArray, List.map_cons, List.map_nil]); first | done | rfl | (simp only [List.length_drop, List.length_take]; rfl)) ?_; (with_reducible refine (zap.calls k1 ((zav l0 x5_1).f0) ((zav l0 x5_1).f1.f0) ((zav l0 x5_1).f1.f1) ((zav l0 x5_1).f1.f2) ((zav l0 x5_1).f2) ((zav l0 x5_1).f3) ((zav l0 x5_1).f4.f0) ((zav l0 x5_1).f4.f1) ((zav l0 x5_1).f4.f2) ((zav l0 x5_1).f5) _ _ ((zav l0 x5_1).f6) _ _ ((zav l0 x5_1).f7) ((zav l0 x5_1).f8) ((zav l0 x5_1).f9) false _ ?side1 ?side2 ?side3 ?side4 A6.out).mono ?_); (case side1 => repeat (first | exact (Kd.za9 HR193_10.out HB.out) | (with_reducible refine Kd.zbn ?_ _) | (with_reducible refine Kd.C_drewN ?_ _) | (with_reducible refine Kd.C_drew ?_))); (case side2 => exact HC193_10.out); (case side3 => repeat (first | exact (Kd.za9 HR193_11.out HB.out) | (with_reducible refine Kd.zbn ?_ _) | (with_reducible refine Kd.C_drewN ?_ _) | (with_reducible refine Kd.C_drew ?_))); (case side4 => exact HC193_11.out); rintro e w9 ⟨rfl, hb⟩; refine ⟨_, rfl, ?_⟩; have n0_ := zab.mk (zal (by repeat with_reducible first | exact HB.out | apply zac | apply zaa | apply zad) hb); clear HB; have HB := n0_; clear n0_; (try clear hb); (try clear hb2); (try clear hk); (try clear hi)))
       go_roundg k1
       case measure => have := HK1.out; omega
       case rel => exact ⟨(wrap64 (x5_1 + 1)), (by first | rfl | (simp; done) | (simp [*]; done)), H', ⟨by have := HK1.out; omega⟩, ⟨by repeat with_reducible first | exact HB.out | apply zac | apply zaa | apply zad⟩⟩
     ·rw [if_neg c5] at H
      exact absurd H (by simp)
    ·rw [if_neg c4] at H
     have c4b0 : decide (x5_1 < (l0.length : Int)) = false := decide_eq_false c4
     clear c4
     obtain rfl := Option.some.inj H
     go_wp2
     go_ret
     exact ⟨by first | rfl | (simp [zao, zan] <;> rfl) | (simp [*, zao, zan] <;> rfl), by repeat with_reducible first | exact HB.out | apply zac | apply zaa | apply zad⟩
end Go.Proofs.YtikmmigfdchcpaaDoor.PP
