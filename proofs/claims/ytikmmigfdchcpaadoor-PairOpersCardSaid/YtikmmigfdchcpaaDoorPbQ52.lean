/-
  Proved: a part of the proof of the claim's statement (text Q52 of it).
  Conditions: none of ours.
-/
import Derived.Test.YtikmmigfdchcpaaDoorPbQ0
import Derived.Test.YtikmmigfdchcpaaDoorPbQ51
namespace Go.Proofs.YtikmmigfdchcpaaDoor.PP
open Go.RowKit Go.Proofs.YtikmmigfdchcpaaDoorW.PrintWords Go.Proofs.YtikmmigfdchcpaaDoorW.PrintLast Go.Proofs.YtikmmigfdchcpaaDoorW.PrintMore
set_option linter.unusedVariables false
set_option linter.unusedSimpArgs false
def za4.l0 : Nat → List (S41) → List (S41) → Int → Option (Bool)
 | 0, _, _, _ => none
 | k + 1, x0, x1, x5 => if x5 < (x0.length : Int) then (if 0 ≤ x5 then (if x5 < (x1.length : Int) then ((zce.f k ((za2 x0 x5).f0.f0) ((za2 x0 x5).f0.f1) ((za2 x0 x5).f0.f2) ((za2 x0 x5).f1) ((za2 x0 x5).f2.f0) ((za2 x0 x5).f2.f1) ((za2 x0 x5).f2.f2) ((za2 x0 x5).f3) ((za2 x0 x5).f4) ((za2 x0 x5).f5) ((za2 x0 x5).f6) ((za2 x0 x5).f7) ((za2 x1 x5).f0.f0) ((za2 x1 x5).f0.f1) ((za2 x1 x5).f0.f2) ((za2 x1 x5).f1) ((za2 x1 x5).f2.f0) ((za2 x1 x5).f2.f1) ((za2 x1 x5).f2.f2) ((za2 x1 x5).f3) ((za2 x1 x5).f4) ((za2 x1 x5).f5) ((za2 x1 x5).f6) ((za2 x1 x5).f7)).bind fun t302 => (if t302 = true then (za4.l0 k x0 x1 (wrap64 (x5 + 1))) else (some false))) else (none)) else (none)) else (some true)
def za4.f (k : Nat) (l0 : List (S41)) (l1 : List (S41)) : Option (Bool) := if (l0.length : Int) = (l1.length : Int) then (za4.l0 k l0 l1 0) else (some false)
def za4.T6 : Bool × List (List Nat × List Nat) := (true, [([], []), ([], []), ([0, 1], [0, 1]), ([2], [2]), ([], []), ([], []), ([4, 5], [4, 5]), ([6], [6]), ([3, 7], [3, 7]), ([8], [8])])
def za4.B6 : List Nat := [0, 0, 3, 7, 0, 0, 48, 112, 255, 511]
theorem za4.tab6 : rtab .any (opsOf Tryd.f13 6) = za4.T6 := by kernel_rfl
theorem za4.bits6 : waitsOk za4.T6.2 za4.B6 = true := by kernel_rfl
set_option maxHeartbeats 8000000 in
set_option maxRecDepth 100000 in
theorem za4.calls (k : Nat) (A0 : Option Addr) (c0 : Nat) (l0 : List (S41)) (A1 : Option Addr) (c1 : Nat) (l1 : List (S41)) (r : Bool) (w : World) (hr0 : Kd.C k41 w A0 l0.length l0) (hc0 : l0.length ≤ c0) (hr1 : Kd.C k41 w A1 l1.length l1) (hc1 : l1.length ≤ c1) (h : za4.f k l0 l1 = some r) :
  Calls Tryd.prog 13 #[.slice A0 l0.length c0, .slice A1 l1.length c1] w fun e w' => e = .returned (.bool r) ∧ Below w.heap.size w w' := by
 have hu41 := Tryd.underlying41
 have HR0 := zae.mk hr0
 have HC0 := zae.mk hc0
 clear hr0 hc0
 have HR1 := zae.mk hr1
 have HC1 := zae.mk hc1
 clear hr1 hc1
 have HB := zae.mk (Below.refl w.heap.size w)
 have H : (if (l0.length : Int) = (l1.length : Int) then (za4.l0 k l0 l1 0) else (some false)) = some r := h
 clear h
 by_cases c3 : (l0.length : Int) = (l1.length : Int)
 ·rw [if_pos c3] at H
  have c3b0 : ((l0.length : Int) == (l1.length : Int)) = true := beq_iff_eq.mpr c3
  have c3b1 : ((l0.length : Int) != (l1.length : Int)) = false := bne_eq_false_iff_eq.mpr c3
  have c3b2 : (l0.length == l1.length) = true := by first | simpa using c3 | (simp at c3 ⊢; omega)
  clear c3
  have H' := zae.mk H
  clear H
  go_enter Tryd.func13, Tryd.ntmps13
  go_wp2
  go_loopg [5] k (fun kq v5 w' => ∃ (x5_1 : Int), v5 = .int .i64 x5_1 ∧ zae (za4.l0 kq l0 l1 x5_1 = some r) ∧ zae (kq ≤ k) ∧ zae (Below w.heap.size w w'))
  case atStart => exact ⟨(0), (by first | rfl | (simp; done) | (simp [*]; done)), H', ⟨Nat.le_refl _⟩, ⟨by repeat with_reducible first | exact HB.out | apply zad | apply zaa | apply zac⟩⟩
  case round =>
   clear H'
   try clear c1
   try clear p2
   try clear c3
   try clear c3b0
   try clear c3b1
   try clear c3b2
   obtain ⟨x5_1, rfl, HA, HK1, HB⟩ := hrel
   cases gk with
   | zero => exact absurd HA.out (by simp [za4.l0])
   | succ k1 =>
    have H := HA.out
    clear HA
    simp only [za4.l0] at H
    by_cases c4 : x5_1 < (l0.length : Int)
    ·rw [if_pos c4] at H
     have c4b0 : decide (x5_1 < (l0.length : Int)) = true := decide_eq_true c4
     clear c4
     by_cases c5 : 0 ≤ x5_1
     ·rw [if_pos c5] at H
      have c5b0 : decide (0 ≤ x5_1) = true := decide_eq_true c5
      clear c5
      by_cases c6 : x5_1 < (l1.length : Int)
      ·rw [if_pos c6] at H
       have c6b0 : decide (x5_1 < (l1.length : Int)) = true := decide_eq_true c6
       clear c6
       replace H := Option.bind_eq_some_iff.mp H
       obtain ⟨t302, A70, H⟩ := H
       replace H : (if t302 = true then (za4.l0 k1 l0 l1 (wrap64 (x5_1 + 1))) else (some false)) = some r := H
       have A7 := zae.mk A70
       clear A70
       by_cases c8 : t302 = true
       ·subst c8
        have H1 : (za4.l0 k1 l0 l1 (wrap64 (x5_1 + 1))) = some r := by rw [if_pos rfl] at H; exact H
        clear H
        have H := H1
        clear H1
        have H' := zae.mk H
        clear H
        try go_wp2
        have n0_ := zae.mk (zac HB.out)
        clear HB
        have HB := n0_
        clear n0_
        have p300 : 0 ≤ (x5_1 : Int) := of_decide_eq_true (by first | (with_reducible assumption) | assumption)
        have q300 : x5_1 < (l0.length : Int) := of_decide_eq_true (by first | (with_reducible assumption) | assumption)
        obtain ⟨ad300, A300_8, c300_8, A300_9, c300_9, e300, hx300_0, hx300_1, hx300_2, hx300_3, hx300_4, hx300_5, hx300_6, hx300_7, hx300_8, hx300_9, hx300_10, hx300_11, hl300_8, hi300_8, hl300_9, hi300_9⟩ := at_T41 HR0.out x5_1 p300 q300
        have hw300_11 := hx300_11
        have hw300_10 := hx300_10
        have hw300_9 := hx300_9
        have hw300_8 := hx300_8
        have hw300_7 := hx300_7
        have hw300_6 := hx300_6
        have hw300_5 := hx300_5
        have hw300_4 := hx300_4
        have hw300_3 := hx300_3
        have hw300_2 := hx300_2
        have hw300_1 := hx300_1
        have hw300_0 := hx300_0
        cases e300
        replace hx300_0 := zab HB.out hx300_0
        replace hx300_1 := zab HB.out hx300_1
        replace hx300_2 := zab HB.out hx300_2
        replace hx300_3 := zab HB.out hx300_3
        replace hx300_4 := zab HB.out hx300_4
        replace hx300_5 := zab HB.out hx300_5
        replace hx300_6 := zab HB.out hx300_6
        replace hx300_7 := zab HB.out hx300_7
        replace hx300_8 := zab HB.out hx300_8
        replace hx300_9 := zab HB.out hx300_9
        replace hx300_10 := zab HB.out hx300_10
        replace hx300_11 := zab HB.out hx300_11
        have HR300_8 := zae.mk hi300_8
        have HC300_8 := zae.mk hl300_8
        clear hi300_8 hl300_8
        have HR300_9 := zae.mk hi300_9
        have HC300_9 := zae.mk hl300_9
        clear hi300_9 hl300_9
        replace p300 := eq_true p300
        replace q300 := eq_true q300
        have p301 : 0 ≤ (x5_1 : Int) := of_decide_eq_true (by first | (with_reducible assumption) | assumption)
        have q301 : x5_1 < (l1.length : Int) := of_decide_eq_true (by first | (with_reducible assumption) | assumption)
        obtain ⟨ad301, A301_8, c301_8, A301_9, c301_9, e301, hx301_0, hx301_1, hx301_2, hx301_3, hx301_4, hx301_5, hx301_6, hx301_7, hx301_8, hx301_9, hx301_10, hx301_11, hl301_8, hi301_8, hl301_9, hi301_9⟩ := at_T41 HR1.out x5_1 p301 q301
        have hw301_11 := hx301_11
        have hw301_10 := hx301_10
        have hw301_9 := hx301_9
        have hw301_8 := hx301_8
        have hw301_7 := hx301_7
        have hw301_6 := hx301_6
        have hw301_5 := hx301_5
        have hw301_4 := hx301_4
        have hw301_3 := hx301_3
        have hw301_2 := hx301_2
        have hw301_1 := hx301_1
        have hw301_0 := hx301_0
        cases e301
        replace hx301_0 := zab HB.out hx301_0
        replace hx301_1 := zab HB.out hx301_1
        replace hx301_2 := zab HB.out hx301_2
        replace hx301_3 := zab HB.out hx301_3
        replace hx301_4 := zab HB.out hx301_4
        replace hx301_5 := zab HB.out hx301_5
        replace hx301_6 := zab HB.out hx301_6
        replace hx301_7 := zab HB.out hx301_7
        replace hx301_8 := zab HB.out hx301_8
        replace hx301_9 := zab HB.out hx301_9
        replace hx301_10 := zab HB.out hx301_10
        replace hx301_11 := zab HB.out hx301_11
        have HR301_8 := zae.mk hi301_8
        have HC301_8 := zae.mk hl301_8
        clear hi301_8 hl301_8
        have HR301_9 := zae.mk hi301_9
        have HC301_9 := zae.mk hl301_9
        clear hi301_9 hl301_9
        replace p301 := eq_true p301
        replace q301 := eq_true q301
        refine zcp (n := 10) (S := fun w' => w'.cell? (ad300.add ((x5_1).toNat * 12)) = some (.int .i64 ((za2 l0 x5_1).f0.f0)) ∧ w'.cell? ⟨(ad300.add ((x5_1).toNat * 12)).block, (ad300.add ((x5_1).toNat * 12)).off + 1, none⟩ = some (.int .i64 ((za2 l0 x5_1).f0.f1)) ∧ w'.cell? ⟨(ad300.add ((x5_1).toNat * 12)).block, (ad300.add ((x5_1).toNat * 12)).off + 2, none⟩ = some (.string ((za2 l0 x5_1).f0.f2)) ∧ w'.cell? ⟨(ad300.add ((x5_1).toNat * 12)).block, (ad300.add ((x5_1).toNat * 12)).off + 3, none⟩ = some (.int .i64 ((za2 l0 x5_1).f1)) ∧ w'.cell? ⟨(ad300.add ((x5_1).toNat * 12)).block, (ad300.add ((x5_1).toNat * 12)).off + 4, none⟩ = some (.int .i64 ((za2 l0 x5_1).f2.f0)) ∧ w'.cell? ⟨(ad300.add ((x5_1).toNat * 12)).block, (ad300.add ((x5_1).toNat * 12)).off + 5, none⟩ = some (.int .i64 ((za2 l0 x5_1).f2.f1)) ∧ w'.cell? ⟨(ad300.add ((x5_1).toNat * 12)).block, (ad300.add ((x5_1).toNat * 12)).off + 6, none⟩ = some (.string ((za2 l0 x5_1).f2.f2)) ∧ w'.cell? ⟨(ad300.add ((x5_1).toNat * 12)).block, (ad300.add ((x5_1).toNat * 12)).off + 7, none⟩ = some (.int .i64 ((za2 l0 x5_1).f3)) ∧ w'.cell? ⟨(ad300.add ((x5_1).toNat * 12)).block, (ad300.add ((x5_1).toNat * 12)).off + 8, none⟩ = some (.slice A300_8 ((za2 l0 x5_1).f4).length c300_8) ∧ w'.cell? ⟨(ad300.add ((x5_1).toNat * 12)).block, (ad300.add ((x5_1).toNat * 12)).off + 9, none⟩ = some (.slice A300_9 ((za2 l0 x5_1).f5).length c300_9) ∧ w'.cell? ⟨(ad300.add ((x5_1).toNat * 12)).block, (ad300.add ((x5_1).toNat * 12)).off + 10, none⟩ = some (.int .i64 ((za2 l0 x5_1).f6)) ∧ w'.cell? ⟨(ad300.add ((x5_1).toNat * 12)).block, (ad300.add ((x5_1).toNat * 12)).off + 11, none⟩ = some (.int .i64 ((za2 l0 x5_1).f7)) ∧ w'.cell? (ad301.add ((x5_1).toNat * 12)) = some (.int .i64 ((za2 l1 x5_1).f0.f0)) ∧ w'.cell? ⟨(ad301.add ((x5_1).toNat * 12)).block, (ad301.add ((x5_1).toNat * 12)).off + 1, none⟩ = some (.int .i64 ((za2 l1 x5_1).f0.f1)) ∧ w'.cell? ⟨(ad301.add ((x5_1).toNat * 12)).block, (ad301.add ((x5_1).toNat * 12)).off + 2, none⟩ = some (.string ((za2 l1 x5_1).f0.f2)) ∧ w'.cell? ⟨(ad301.add ((x5_1).toNat * 12)).block, (ad301.add ((x5_1).toNat * 12)).off + 3, none⟩ = some (.int .i64 ((za2 l1 x5_1).f1)) ∧ w'.cell? ⟨(ad301.add ((x5_1).toNat * 12)).block, (ad301.add ((x5_1).toNat * 12)).off + 4, none⟩ = some (.int .i64 ((za2 l1 x5_1).f2.f0)) ∧ w'.cell? ⟨(ad301.add ((x5_1).toNat * 12)).block, (ad301.add ((x5_1).toNat * 12)).off + 5, none⟩ = some (.int .i64 ((za2 l1 x5_1).f2.f1)) ∧ w'.cell? ⟨(ad301.add ((x5_1).toNat * 12)).block, (ad301.add ((x5_1).toNat * 12)).off + 6, none⟩ = some (.string ((za2 l1 x5_1).f2.f2)) ∧ w'.cell? ⟨(ad301.add ((x5_1).toNat * 12)).block, (ad301.add ((x5_1).toNat * 12)).off + 7, none⟩ = some (.int .i64 ((za2 l1 x5_1).f3)) ∧ w'.cell? ⟨(ad301.add ((x5_1).toNat * 12)).block, (ad301.add ((x5_1).toNat * 12)).off + 8, none⟩ = some (.slice A301_8 ((za2 l1 x5_1).f4).length c301_8) ∧ w'.cell? ⟨(ad301.add ((x5_1).toNat * 12)).block, (ad301.add ((x5_1).toNat * 12)).off + 9, none⟩ = some (.slice A301_9 ((za2 l1 x5_1).f5).length c301_9) ∧ w'.cell? ⟨(ad301.add ((x5_1).toNat * 12)).block, (ad301.add ((x5_1).toNat * 12)).off + 10, none⟩ = some (.int .i64 ((za2 l1 x5_1).f6)) ∧ w'.cell? ⟨(ad301.add ((x5_1).toNat * 12)).block, (ad301.add ((x5_1).toNat * 12)).off + 11, none⟩ = some (.int .i64 ((za2 l1 x5_1).f7))) (ds := []) #[false, false, false, false, false, false, false, false, false, false] (by kernel_rfl) rfl rfl ⟨(zab HB.out hw300_0), (zab HB.out hw300_1), (zab HB.out hw300_2), (zab HB.out hw300_3), (zab HB.out hw300_4), (zab HB.out hw300_5), (zab HB.out hw300_6), (zab HB.out hw300_7), (zab HB.out hw300_8), (zab HB.out hw300_9), (zab HB.out hw300_10), (zab HB.out hw300_11), (zab HB.out hw301_0), (zab HB.out hw301_1), (zab HB.out hw301_2), (zab HB.out hw301_3), (zab HB.out hw301_4), (zab HB.out hw301_5), (zab HB.out hw301_6), (zab HB.out hw301_7), (zab HB.out hw301_8), (zab HB.out hw301_9), (zab HB.out hw301_10), (zab HB.out hw301_11)⟩ (fun hHeld => ?_); refine zci za4.tab6 za4.bits6 (fun HT_ HW_ => ?_)
        generalize wr.drew = w9 at HB HR300_8 HR300_9 HR301_8 HR301_9 hx300_0 hx300_1 hx300_10 hx300_11 hx300_2 hx300_3 hx300_4 hx300_5 hx300_6 hx300_7 hx300_8 hx300_9 hx301_0 hx301_1 hx301_10 hx301_11 hx301_2 hx301_3 hx301_4 hx301_5 hx301_6 hx301_7 hx301_8 hx301_9 hHeld ⊢
        refine pz_ 0 17 ?_ ?_ (bz 10 1) rfl rfl (zay HT_.out (by kernel_rfl)) (fun _ _ _ h => h) (Or.inl ⟨by rfl, ?_⟩) ?_ ?_; rotate_left 2; (intro w'; go_simp; with_reducible rfl); (simp only [zps]; rfl)
        refine pz_ 1 18 ?_ ?_ (bz 10 3) rfl rfl (zay HT_.out (by kernel_rfl)) (fun _ _ _ h => h) (Or.inl ⟨by rfl, ?_⟩) ?_ ?_; rotate_left 2; (intro w'; go_simp; with_reducible rfl); (simp only [zps]; rfl)
        refine pz_ 2 19 ?_ ?_ (bz 10 7) rfl rfl (zay HT_.out (by kernel_rfl)) (fun _ _ _ h => h) (Or.inl ⟨by rfl, ?_⟩) ?_ ?_; rotate_left 2; (intro w'; go_simp; with_reducible rfl); (simp only [zps]; rfl)
        refine pz_ 4 21 ?_ ?_ (bz 10 23) rfl rfl (zay HT_.out (by kernel_rfl)) (fun _ _ _ h => h) (Or.inl ⟨by rfl, ?_⟩) ?_ ?_; rotate_left 2; (intro w'; go_simp; with_reducible rfl); (simp only [zps]; rfl)
        refine pz_ 5 22 ?_ ?_ (bz 10 55) rfl rfl (zay HT_.out (by kernel_rfl)) (fun _ _ _ h => h) (Or.inl ⟨by rfl, ?_⟩) ?_ ?_; rotate_left 2; (intro w'; go_simp; with_reducible rfl); (simp only [zps]; rfl)
        refine pz_ 6 23 ?_ ?_ (bz 10 119) rfl rfl (zay HT_.out (by kernel_rfl)) (fun _ _ _ h => h) (Or.inl ⟨by rfl, ?_⟩) ?_ ?_; rotate_left 2; (intro w'; go_simp; with_reducible rfl); (simp only [zps]; rfl)
        refine tz_ 3 20 ?_ ?_ (bz 10 127) rfl rfl (zbt HT_.out HW_.out (by kernel_rfl)) (fun _ _ _ h => h) (Or.inl ⟨by rfl, ?_⟩) hHeld ?_ ?_; rotate_left 2; (rintro w' ⟨s0, s1, s2, s3, s4, s5, s6, s7, s8, s9, s10, s11, s12, s13, s14, s15, s16, s17, s18, s19, s20, s21, s22, s23⟩; go_simp; with_reducible rfl); (simp only [zps]; rfl)
        refine tz_ 7 24 ?_ ?_ (bz 10 255) rfl rfl (zbt HT_.out HW_.out (by kernel_rfl)) (fun _ _ _ h => h) (Or.inl ⟨by rfl, ?_⟩) hHeld ?_ ?_; rotate_left 2; (rintro w' ⟨s0, s1, s2, s3, s4, s5, s6, s7, s8, s9, s10, s11, s12, s13, s14, s15, s16, s17, s18, s19, s20, s21, s22, s23⟩; go_simp; with_reducible rfl); (simp only [zps]; rfl)
        refine one_ (i := 8) (N := some 25) (bz 10 511) rfl rfl (one_of HT_.out (by kernel_rfl)) (by decide) (fun K hK => ?_)
        refine goes_ Tryd.func15 (by kernel_rfl) rfl #[.agg #[.int .i64 ((za2 l0 x5_1).f0.f0), .int .i64 ((za2 l0 x5_1).f0.f1), .string ((za2 l0 x5_1).f0.f2), .int .i64 ((za2 l0 x5_1).f1), .int .i64 ((za2 l0 x5_1).f2.f0), .int .i64 ((za2 l0 x5_1).f2.f1), .string ((za2 l0 x5_1).f2.f2), .int .i64 ((za2 l0 x5_1).f3), .slice A300_8 ((za2 l0 x5_1).f4).length c300_8, .slice A300_9 ((za2 l0 x5_1).f5).length c300_9, .int .i64 ((za2 l0 x5_1).f6), .int .i64 ((za2 l0 x5_1).f7)], .agg #[.int .i64 ((za2 l1 x5_1).f0.f0), .int .i64 ((za2 l1 x5_1).f0.f1), .string ((za2 l1 x5_1).f0.f2), .int .i64 ((za2 l1 x5_1).f1), .int .i64 ((za2 l1 x5_1).f2.f0), .int .i64 ((za2 l1 x5_1).f2.f1), .string ((za2 l1 x5_1).f2.f2), .int .i64 ((za2 l1 x5_1).f3), .slice A301_8 ((za2 l1 x5_1).f4).length c301_8, .slice A301_9 ((za2 l1 x5_1).f5).length c301_9, .int .i64 ((za2 l1 x5_1).f6), .int .i64 ((za2 l1 x5_1).f7)]] (by rfl) rfl rfl (by (try simp only [List.map_toArray, List.map_cons, List.map_nil]); first | done | rfl | (simp only [List.length_drop, List.length_take]; rfl)) ?_
        with_reducible refine (zce.calls k1 ((za2 l0 x5_1).f0.f0) ((za2 l0 x5_1).f0.f1) ((za2 l0 x5_1).f0.f2) ((za2 l0 x5_1).f1) ((za2 l0 x5_1).f2.f0) ((za2 l0 x5_1).f2.f1) ((za2 l0 x5_1).f2.f2) ((za2 l0 x5_1).f3) _ _ ((za2 l0 x5_1).f4) _ _ ((za2 l0 x5_1).f5) ((za2 l0 x5_1).f6) ((za2 l0 x5_1).f7) ((za2 l1 x5_1).f0.f0) ((za2 l1 x5_1).f0.f1) ((za2 l1 x5_1).f0.f2) ((za2 l1 x5_1).f1) ((za2 l1 x5_1).f2.f0) ((za2 l1 x5_1).f2.f1) ((za2 l1 x5_1).f2.f2) ((za2 l1 x5_1).f3) _ _ ((za2 l1 x5_1).f4) _ _ ((za2 l1 x5_1).f5) ((za2 l1 x5_1).f6) ((za2 l1 x5_1).f7) true _ ?side1 ?side2 ?side3 ?side4 ?side5 ?side6 ?side7 ?side8 A7.out).mono ?_
        (case side1 => repeat (first | exact (Kd.zbk HR300_8.out HB.out) | (with_reducible refine Kd.zbx ?_ _) | (with_reducible refine Kd.C_drewN ?_ _) | (with_reducible refine Kd.C_drew ?_)))
        (case side2 => exact HC300_8.out)
        (case side3 => repeat (first | exact (Kd.zbk HR300_9.out HB.out) | (with_reducible refine Kd.zbx ?_ _) | (with_reducible refine Kd.C_drewN ?_ _) | (with_reducible refine Kd.C_drew ?_)))
        (case side4 => exact HC300_9.out)
        (case side5 => repeat (first | exact (Kd.zbk HR301_8.out HB.out) | (with_reducible refine Kd.zbx ?_ _) | (with_reducible refine Kd.C_drewN ?_ _) | (with_reducible refine Kd.C_drew ?_)))
        (case side6 => exact HC301_8.out)
        (case side7 => repeat (first | exact (Kd.zbk HR301_9.out HB.out) | (with_reducible refine Kd.zbx ?_ _) | (with_reducible refine Kd.C_drewN ?_ _) | (with_reducible refine Kd.C_drew ?_)))
        (case side8 => exact HC301_9.out)
        rintro e w10 ⟨rfl, hb⟩
        refine ⟨_, rfl, ?_⟩
        have n0_ := zae.mk (zaq (by repeat with_reducible first | exact HB.out | apply zad | apply zaa | apply zac) hb)
        clear HB
        have HB := n0_
        clear n0_
        try clear hb
        try clear hb2
        try clear hk
        try clear hi
        refine hK.out _ _ ⟨(zab HB.out hw300_0), (zab HB.out hw300_1), (zab HB.out hw300_2), (zab HB.out hw300_3), (zab HB.out hw300_4), (zab HB.out hw300_5), (zab HB.out hw300_6), (zab HB.out hw300_7), (zab HB.out hw300_8), (zab HB.out hw300_9), (zab HB.out hw300_10), (zab HB.out hw300_11), (zab HB.out hw301_0), (zab HB.out hw301_1), (zab HB.out hw301_2), (zab HB.out hw301_3), (zab HB.out hw301_4), (zab HB.out hw301_5), (zab HB.out hw301_6), (zab HB.out hw301_7), (zab HB.out hw301_8), (zab HB.out hw301_9), (zab HB.out hw301_10), (zab HB.out hw301_11)⟩ (fun hHeld => ?_)
        clear hK K
        refine norm_ (a' := ?_) ?_ ?_
        rotate_left
        ·show Act.put _ (some 25) _ = _
         simp only [zps]
         rfl
        refine pz_ 9 26 ?_ ?_ (bz 10 1023) rfl rfl (zay HT_.out (by kernel_rfl)) (fun _ _ _ h => h) (Or.inl ⟨by rfl, ?_⟩) ?_ ?_; rotate_left 2; (intro w'; go_simp; with_reducible rfl); (simp only [zps]; rfl)
        refine done_ (zcv HT_.out (by kernel_rfl)) ?_
        try go_wp2
        go_roundg k1
        case measure => have := HK1.out; omega
        case rel => exact ⟨(wrap64 (x5_1 + 1)), (by first | rfl | (simp; done) | (simp [*]; done)), H', ⟨by have := HK1.out; omega⟩, ⟨by repeat with_reducible first | exact HB.out | apply zad | apply zaa | apply zac⟩⟩
       ·replace c8 := Bool.eq_false_iff.mpr c8
        subst c8
        have H1 : (some false) = some r := by rw [if_neg (show ¬ (false = true) by decide)] at H; exact H
        clear H
        have H := H1
        clear H1
        obtain rfl := Option.some.inj H
        try go_wp2
        have n0_ := zae.mk (zac HB.out)
        clear HB
        have HB := n0_
        clear n0_
        have p300 : 0 ≤ (x5_1 : Int) := of_decide_eq_true (by first | (with_reducible assumption) | assumption)
        have q300 : x5_1 < (l0.length : Int) := of_decide_eq_true (by first | (with_reducible assumption) | assumption)
        obtain ⟨ad300, A300_8, c300_8, A300_9, c300_9, e300, hx300_0, hx300_1, hx300_2, hx300_3, hx300_4, hx300_5, hx300_6, hx300_7, hx300_8, hx300_9, hx300_10, hx300_11, hl300_8, hi300_8, hl300_9, hi300_9⟩ := at_T41 HR0.out x5_1 p300 q300
        have hw300_11 := hx300_11
        have hw300_10 := hx300_10
        have hw300_9 := hx300_9
        have hw300_8 := hx300_8
        have hw300_7 := hx300_7
        have hw300_6 := hx300_6
        have hw300_5 := hx300_5
        have hw300_4 := hx300_4
        have hw300_3 := hx300_3
        have hw300_2 := hx300_2
        have hw300_1 := hx300_1
        have hw300_0 := hx300_0
        cases e300
        replace hx300_0 := zab HB.out hx300_0
        replace hx300_1 := zab HB.out hx300_1
        replace hx300_2 := zab HB.out hx300_2
        replace hx300_3 := zab HB.out hx300_3
        replace hx300_4 := zab HB.out hx300_4
        replace hx300_5 := zab HB.out hx300_5
        replace hx300_6 := zab HB.out hx300_6
        replace hx300_7 := zab HB.out hx300_7
        replace hx300_8 := zab HB.out hx300_8
        replace hx300_9 := zab HB.out hx300_9
        replace hx300_10 := zab HB.out hx300_10
        replace hx300_11 := zab HB.out hx300_11
        have HR300_8 := zae.mk hi300_8
        have HC300_8 := zae.mk hl300_8
        clear hi300_8 hl300_8
        have HR300_9 := zae.mk hi300_9
        have HC300_9 := zae.mk hl300_9
        clear hi300_9 hl300_9
        replace p300 := eq_true p300
        replace q300 := eq_true q300
        have p301 : 0 ≤ (x5_1 : Int) := of_decide_eq_true (by first | (with_reducible assumption) | assumption)
        have q301 : x5_1 < (l1.length : Int) := of_decide_eq_true (by first | (with_reducible assumption) | assumption)
        obtain ⟨ad301, A301_8, c301_8, A301_9, c301_9, e301, hx301_0, hx301_1, hx301_2, hx301_3, hx301_4, hx301_5, hx301_6, hx301_7, hx301_8, hx301_9, hx301_10, hx301_11, hl301_8, hi301_8, hl301_9, hi301_9⟩ := at_T41 HR1.out x5_1 p301 q301
        have hw301_11 := hx301_11
        have hw301_10 := hx301_10
        have hw301_9 := hx301_9
        have hw301_8 := hx301_8
        have hw301_7 := hx301_7
        have hw301_6 := hx301_6
        have hw301_5 := hx301_5
        have hw301_4 := hx301_4
        have hw301_3 := hx301_3
        have hw301_2 := hx301_2
        have hw301_1 := hx301_1
        have hw301_0 := hx301_0
        cases e301
        replace hx301_0 := zab HB.out hx301_0
        replace hx301_1 := zab HB.out hx301_1
        replace hx301_2 := zab HB.out hx301_2
        replace hx301_3 := zab HB.out hx301_3
        replace hx301_4 := zab HB.out hx301_4
        replace hx301_5 := zab HB.out hx301_5
        replace hx301_6 := zab HB.out hx301_6
        replace hx301_7 := zab HB.out hx301_7
        replace hx301_8 := zab HB.out hx301_8
        replace hx301_9 := zab HB.out hx301_9
        replace hx301_10 := zab HB.out hx301_10
        replace hx301_11 := zab HB.out hx301_11
        have HR301_8 := zae.mk hi301_8
        have HC301_8 := zae.mk hl301_8
        clear hi301_8 hl301_8
        have HR301_9 := zae.mk hi301_9
        have HC301_9 := zae.mk hl301_9
        clear hi301_9 hl301_9
        replace p301 := eq_true p301
        replace q301 := eq_true q301
        refine zcp (n := 10) (S := fun w' => w'.cell? (ad300.add ((x5_1).toNat * 12)) = some (.int .i64 ((za2 l0 x5_1).f0.f0)) ∧ w'.cell? ⟨(ad300.add ((x5_1).toNat * 12)).block, (ad300.add ((x5_1).toNat * 12)).off + 1, none⟩ = some (.int .i64 ((za2 l0 x5_1).f0.f1)) ∧ w'.cell? ⟨(ad300.add ((x5_1).toNat * 12)).block, (ad300.add ((x5_1).toNat * 12)).off + 2, none⟩ = some (.string ((za2 l0 x5_1).f0.f2)) ∧ w'.cell? ⟨(ad300.add ((x5_1).toNat * 12)).block, (ad300.add ((x5_1).toNat * 12)).off + 3, none⟩ = some (.int .i64 ((za2 l0 x5_1).f1)) ∧ w'.cell? ⟨(ad300.add ((x5_1).toNat * 12)).block, (ad300.add ((x5_1).toNat * 12)).off + 4, none⟩ = some (.int .i64 ((za2 l0 x5_1).f2.f0)) ∧ w'.cell? ⟨(ad300.add ((x5_1).toNat * 12)).block, (ad300.add ((x5_1).toNat * 12)).off + 5, none⟩ = some (.int .i64 ((za2 l0 x5_1).f2.f1)) ∧ w'.cell? ⟨(ad300.add ((x5_1).toNat * 12)).block, (ad300.add ((x5_1).toNat * 12)).off + 6, none⟩ = some (.string ((za2 l0 x5_1).f2.f2)) ∧ w'.cell? ⟨(ad300.add ((x5_1).toNat * 12)).block, (ad300.add ((x5_1).toNat * 12)).off + 7, none⟩ = some (.int .i64 ((za2 l0 x5_1).f3)) ∧ w'.cell? ⟨(ad300.add ((x5_1).toNat * 12)).block, (ad300.add ((x5_1).toNat * 12)).off + 8, none⟩ = some (.slice A300_8 ((za2 l0 x5_1).f4).length c300_8) ∧ w'.cell? ⟨(ad300.add ((x5_1).toNat * 12)).block, (ad300.add ((x5_1).toNat * 12)).off + 9, none⟩ = some (.slice A300_9 ((za2 l0 x5_1).f5).length c300_9) ∧ w'.cell? ⟨(ad300.add ((x5_1).toNat * 12)).block, (ad300.add ((x5_1).toNat * 12)).off + 10, none⟩ = some (.int .i64 ((za2 l0 x5_1).f6)) ∧ w'.cell? ⟨(ad300.add ((x5_1).toNat * 12)).block, (ad300.add ((x5_1).toNat * 12)).off + 11, none⟩ = some (.int .i64 ((za2 l0 x5_1).f7)) ∧ w'.cell? (ad301.add ((x5_1).toNat * 12)) = some (.int .i64 ((za2 l1 x5_1).f0.f0)) ∧ w'.cell? ⟨(ad301.add ((x5_1).toNat * 12)).block, (ad301.add ((x5_1).toNat * 12)).off + 1, none⟩ = some (.int .i64 ((za2 l1 x5_1).f0.f1)) ∧ w'.cell? ⟨(ad301.add ((x5_1).toNat * 12)).block, (ad301.add ((x5_1).toNat * 12)).off + 2, none⟩ = some (.string ((za2 l1 x5_1).f0.f2)) ∧ w'.cell? ⟨(ad301.add ((x5_1).toNat * 12)).block, (ad301.add ((x5_1).toNat * 12)).off + 3, none⟩ = some (.int .i64 ((za2 l1 x5_1).f1)) ∧ w'.cell? ⟨(ad301.add ((x5_1).toNat * 12)).block, (ad301.add ((x5_1).toNat * 12)).off + 4, none⟩ = some (.int .i64 ((za2 l1 x5_1).f2.f0)) ∧ w'.cell? ⟨(ad301.add ((x5_1).toNat * 12)).block, (ad301.add ((x5_1).toNat * 12)).off + 5, none⟩ = some (.int .i64 ((za2 l1 x5_1).f2.f1)) ∧ w'.cell? ⟨(ad301.add ((x5_1).toNat * 12)).block, (ad301.add ((x5_1).toNat * 12)).off + 6, none⟩ = some (.string ((za2 l1 x5_1).f2.f2)) ∧ w'.cell? ⟨(ad301.add ((x5_1).toNat * 12)).block, (ad301.add ((x5_1).toNat * 12)).off + 7, none⟩ = some (.int .i64 ((za2 l1 x5_1).f3)) ∧ w'.cell? ⟨(ad301.add ((x5_1).toNat * 12)).block, (ad301.add ((x5_1).toNat * 12)).off + 8, none⟩ = some (.slice A301_8 ((za2 l1 x5_1).f4).length c301_8) ∧ w'.cell? ⟨(ad301.add ((x5_1).toNat * 12)).block, (ad301.add ((x5_1).toNat * 12)).off + 9, none⟩ = some (.slice A301_9 ((za2 l1 x5_1).f5).length c301_9) ∧ w'.cell? ⟨(ad301.add ((x5_1).toNat * 12)).block, (ad301.add ((x5_1).toNat * 12)).off + 10, none⟩ = some (.int .i64 ((za2 l1 x5_1).f6)) ∧ w'.cell? ⟨(ad301.add ((x5_1).toNat * 12)).block, (ad301.add ((x5_1).toNat * 12)).off + 11, none⟩ = some (.int .i64 ((za2 l1 x5_1).f7))) (ds := []) #[false, false, false, false, false, false, false, false, false, false] (by kernel_rfl) rfl rfl ⟨(zab HB.out hw300_0), (zab HB.out hw300_1), (zab HB.out hw300_2), (zab HB.out hw300_3), (zab HB.out hw300_4), (zab HB.out hw300_5), (zab HB.out hw300_6), (zab HB.out hw300_7), (zab HB.out hw300_8), (zab HB.out hw300_9), (zab HB.out hw300_10), (zab HB.out hw300_11), (zab HB.out hw301_0), (zab HB.out hw301_1), (zab HB.out hw301_2), (zab HB.out hw301_3), (zab HB.out hw301_4), (zab HB.out hw301_5), (zab HB.out hw301_6), (zab HB.out hw301_7), (zab HB.out hw301_8), (zab HB.out hw301_9), (zab HB.out hw301_10), (zab HB.out hw301_11)⟩ (fun hHeld => ?_); refine zci za4.tab6 za4.bits6 (fun HT_ HW_ => ?_)
        generalize wr.drew = w11 at HB HR300_8 HR300_9 HR301_8 HR301_9 hx300_0 hx300_1 hx300_10 hx300_11 hx300_2 hx300_3 hx300_4 hx300_5 hx300_6 hx300_7 hx300_8 hx300_9 hx301_0 hx301_1 hx301_10 hx301_11 hx301_2 hx301_3 hx301_4 hx301_5 hx301_6 hx301_7 hx301_8 hx301_9 hHeld ⊢
        refine pz_ 0 17 ?_ ?_ (bz 10 1) rfl rfl (zay HT_.out (by kernel_rfl)) (fun _ _ _ h => h) (Or.inl ⟨by rfl, ?_⟩) ?_ ?_; rotate_left 2; (intro w'; go_simp; with_reducible rfl); (simp only [zps]; rfl)
        refine pz_ 1 18 ?_ ?_ (bz 10 3) rfl rfl (zay HT_.out (by kernel_rfl)) (fun _ _ _ h => h) (Or.inl ⟨by rfl, ?_⟩) ?_ ?_; rotate_left 2; (intro w'; go_simp; with_reducible rfl); (simp only [zps]; rfl)
        refine pz_ 2 19 ?_ ?_ (bz 10 7) rfl rfl (zay HT_.out (by kernel_rfl)) (fun _ _ _ h => h) (Or.inl ⟨by rfl, ?_⟩) ?_ ?_; rotate_left 2; (intro w'; go_simp; with_reducible rfl); (simp only [zps]; rfl)
        refine pz_ 4 21 ?_ ?_ (bz 10 23) rfl rfl (zay HT_.out (by kernel_rfl)) (fun _ _ _ h => h) (Or.inl ⟨by rfl, ?_⟩) ?_ ?_; rotate_left 2; (intro w'; go_simp; with_reducible rfl); (simp only [zps]; rfl)
        refine pz_ 5 22 ?_ ?_ (bz 10 55) rfl rfl (zay HT_.out (by kernel_rfl)) (fun _ _ _ h => h) (Or.inl ⟨by rfl, ?_⟩) ?_ ?_; rotate_left 2; (intro w'; go_simp; with_reducible rfl); (simp only [zps]; rfl)
        refine pz_ 6 23 ?_ ?_ (bz 10 119) rfl rfl (zay HT_.out (by kernel_rfl)) (fun _ _ _ h => h) (Or.inl ⟨by rfl, ?_⟩) ?_ ?_; rotate_left 2; (intro w'; go_simp; with_reducible rfl); (simp only [zps]; rfl)
        refine tz_ 3 20 ?_ ?_ (bz 10 127) rfl rfl (zbt HT_.out HW_.out (by kernel_rfl)) (fun _ _ _ h => h) (Or.inl ⟨by rfl, ?_⟩) hHeld ?_ ?_; rotate_left 2; (rintro w' ⟨s0, s1, s2, s3, s4, s5, s6, s7, s8, s9, s10, s11, s12, s13, s14, s15, s16, s17, s18, s19, s20, s21, s22, s23⟩; go_simp; with_reducible rfl); (simp only [zps]; rfl)
        refine tz_ 7 24 ?_ ?_ (bz 10 255) rfl rfl (zbt HT_.out HW_.out (by kernel_rfl)) (fun _ _ _ h => h) (Or.inl ⟨by rfl, ?_⟩) hHeld ?_ ?_; rotate_left 2; (rintro w' ⟨s0, s1, s2, s3, s4, s5, s6, s7, s8, s9, s10, s11, s12, s13, s14, s15, s16, s17, s18, s19, s20, s21, s22, s23⟩; go_simp; with_reducible rfl); (simp only [zps]; rfl)
        refine one_ (i := 8) (N := some 25) (bz 10 511) rfl rfl (one_of HT_.out (by kernel_rfl)) (by decide) (fun K hK => ?_)
        refine goes_ Tryd.func15 (by kernel_rfl) rfl #[.agg #[.int .i64 ((za2 l0 x5_1).f0.f0), .int .i64 ((za2 l0 x5_1).f0.f1), .string ((za2 l0 x5_1).f0.f2), .int .i64 ((za2 l0 x5_1).f1), .int .i64 ((za2 l0 x5_1).f2.f0), .int .i64 ((za2 l0 x5_1).f2.f1), .string ((za2 l0 x5_1).f2.f2), .int .i64 ((za2 l0 x5_1).f3), .slice A300_8 ((za2 l0 x5_1).f4).length c300_8, .slice A300_9 ((za2 l0 x5_1).f5).length c300_9, .int .i64 ((za2 l0 x5_1).f6), .int .i64 ((za2 l0 x5_1).f7)], .agg #[.int .i64 ((za2 l1 x5_1).f0.f0), .int .i64 ((za2 l1 x5_1).f0.f1), .string ((za2 l1 x5_1).f0.f2), .int .i64 ((za2 l1 x5_1).f1), .int .i64 ((za2 l1 x5_1).f2.f0), .int .i64 ((za2 l1 x5_1).f2.f1), .string ((za2 l1 x5_1).f2.f2), .int .i64 ((za2 l1 x5_1).f3), .slice A301_8 ((za2 l1 x5_1).f4).length c301_8, .slice A301_9 ((za2 l1 x5_1).f5).length c301_9, .int .i64 ((za2 l1 x5_1).f6), .int .i64 ((za2 l1 x5_1).f7)]] (by rfl) rfl rfl (by (try simp only [List.map_toArray, List.map_cons, List.map_nil]); first | done | rfl | (simp only [List.length_drop, List.length_take]; rfl)) ?_
        with_reducible refine (zce.calls k1 ((za2 l0 x5_1).f0.f0) ((za2 l0 x5_1).f0.f1) ((za2 l0 x5_1).f0.f2) ((za2 l0 x5_1).f1) ((za2 l0 x5_1).f2.f0) ((za2 l0 x5_1).f2.f1) ((za2 l0 x5_1).f2.f2) ((za2 l0 x5_1).f3) _ _ ((za2 l0 x5_1).f4) _ _ ((za2 l0 x5_1).f5) ((za2 l0 x5_1).f6) ((za2 l0 x5_1).f7) ((za2 l1 x5_1).f0.f0) ((za2 l1 x5_1).f0.f1) ((za2 l1 x5_1).f0.f2) ((za2 l1 x5_1).f1) ((za2 l1 x5_1).f2.f0) ((za2 l1 x5_1).f2.f1) ((za2 l1 x5_1).f2.f2) ((za2 l1 x5_1).f3) _ _ ((za2 l1 x5_1).f4) _ _ ((za2 l1 x5_1).f5) ((za2 l1 x5_1).f6) ((za2 l1 x5_1).f7) false _ ?side1 ?side2 ?side3 ?side4 ?side5 ?side6 ?side7 ?side8 A7.out).mono ?_
        (case side1 => repeat (first | exact (Kd.zbk HR300_8.out HB.out) | (with_reducible refine Kd.zbx ?_ _) | (with_reducible refine Kd.C_drewN ?_ _) | (with_reducible refine Kd.C_drew ?_)))
        (case side2 => exact HC300_8.out)
        (case side3 => repeat (first | exact (Kd.zbk HR300_9.out HB.out) | (with_reducible refine Kd.zbx ?_ _) | (with_reducible refine Kd.C_drewN ?_ _) | (with_reducible refine Kd.C_drew ?_)))
        (case side4 => exact HC300_9.out)
        (case side5 => repeat (first | exact (Kd.zbk HR301_8.out HB.out) | (with_reducible refine Kd.zbx ?_ _) | (with_reducible refine Kd.C_drewN ?_ _) | (with_reducible refine Kd.C_drew ?_)))
        (case side6 => exact HC301_8.out)
        (case side7 => repeat (first | exact (Kd.zbk HR301_9.out HB.out) | (with_reducible refine Kd.zbx ?_ _) | (with_reducible refine Kd.C_drewN ?_ _) | (with_reducible refine Kd.C_drew ?_)))
        (case side8 => exact HC301_9.out)
        rintro e w12 ⟨rfl, hb⟩
        refine ⟨_, rfl, ?_⟩
        have n0_ := zae.mk (zaq (by repeat with_reducible first | exact HB.out | apply zad | apply zaa | apply zac) hb)
        clear HB
        have HB := n0_
        clear n0_
        try clear hb
        try clear hb2
        try clear hk
        try clear hi
        refine hK.out _ _ ⟨(zab HB.out hw300_0), (zab HB.out hw300_1), (zab HB.out hw300_2), (zab HB.out hw300_3), (zab HB.out hw300_4), (zab HB.out hw300_5), (zab HB.out hw300_6), (zab HB.out hw300_7), (zab HB.out hw300_8), (zab HB.out hw300_9), (zab HB.out hw300_10), (zab HB.out hw300_11), (zab HB.out hw301_0), (zab HB.out hw301_1), (zab HB.out hw301_2), (zab HB.out hw301_3), (zab HB.out hw301_4), (zab HB.out hw301_5), (zab HB.out hw301_6), (zab HB.out hw301_7), (zab HB.out hw301_8), (zab HB.out hw301_9), (zab HB.out hw301_10), (zab HB.out hw301_11)⟩ (fun hHeld => ?_)
        clear hK K
        refine norm_ (a' := ?_) ?_ ?_
        rotate_left
        ·show Act.put _ (some 25) _ = _
         simp only [zps]
         rfl
        refine pz_ 9 26 ?_ ?_ (bz 10 1023) rfl rfl (zay HT_.out (by kernel_rfl)) (fun _ _ _ h => h) (Or.inl ⟨by rfl, ?_⟩) ?_ ?_; rotate_left 2; (intro w'; go_simp; with_reducible rfl); (simp only [zps]; rfl)
        refine done_ (zcv HT_.out (by kernel_rfl)) ?_
        try go_wp2
        go_ret
        exact ⟨by first | rfl | (simp [zam, zal] <;> rfl) | (simp [*, zam, zal] <;> rfl), by repeat with_reducible first | exact HB.out | apply zad | apply zaa | apply zac⟩
      ·rw [if_neg c6] at H
       exact absurd H (by simp)
     ·rw [if_neg c5] at H
      exact absurd H (by simp)
    ·rw [if_neg c4] at H
     have c4b0 : decide (x5_1 < (l0.length : Int)) = false := decide_eq_false c4
     clear c4
     obtain rfl := Option.some.inj H
     go_wp2
     go_ret
     exact ⟨by first | rfl | (simp [zam, zal] <;> rfl) | (simp [*, zam, zal] <;> rfl), by repeat with_reducible first | exact HB.out | apply zad | apply zaa | apply zac⟩
 ·rw [if_neg c3] at H
  have c3b0 : ((l0.length : Int) == (l1.length : Int)) = false := beq_eq_false_iff_ne.mpr c3
  have c3b1 : ((l0.length : Int) != (l1.length : Int)) = true := bne_iff_ne.mpr c3
  have c3b2 : (l0.length == l1.length) = false := by first | simpa using c3 | (simp at c3 ⊢; omega)
  obtain rfl := Option.some.inj H
  go_enter Tryd.func13, Tryd.ntmps13
  go_wp2
  go_ret
  exact ⟨by first | rfl | (simp [zam, zal] <;> rfl) | (simp [*, zam, zal] <;> rfl), by repeat with_reducible first | exact HB.out | apply zad | apply zaa | apply zac⟩
end Go.Proofs.YtikmmigfdchcpaaDoor.PP
