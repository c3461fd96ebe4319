/-
  Proved: a part of the proof of the claim's statement (text Q42 of it).
  Conditions: none of ours.
-/
import Derived.Test.YtikmmigfdchcpaaDoorPaQ0
import Derived.Test.YtikmmigfdchcpaaDoorPaQ37
import Derived.Test.YtikmmigfdchcpaaDoorPaQ38
namespace Go.Proofs.YtikmmigfdchcpaaDoor.PP
open Go.RowKit Go.Proofs.YtikmmigfdchcpaaDoorW.PrintWords Go.Proofs.YtikmmigfdchcpaaDoorW.PrintLast Go.Proofs.YtikmmigfdchcpaaDoorW.PrintMore
set_option linter.unusedVariables false
set_option linter.unusedSimpArgs false
def zaz.j0 : Nat → Int → Bool → Int → Int → ByteArray → Option (Bool)
 | 0, _, _, _, _, _ => none
 | k + 1, x0, x10, x234000, x234001, x234002 => if x10 = true then ((zbc.f k x234000 x234001 x234002).bind fun t234 => (some t234)) else (if x0 = 5 then ((zaw.f k x234000 x234001 x234002).bind fun t235 => (if t235 = true then (if x234000 = 1 then (some true) else (if x0 = 6 then ((zaw.f k x234000 x234001 x234002).bind fun t236 => (if t236 = true then (some (x234000 == 3)) else (some false))) else (some false))) else (if x0 = 6 then ((zaw.f k x234000 x234001 x234002).bind fun t237 => (if t237 = true then (some (x234000 == 3)) else (some false))) else (some false)))) else (if x0 = 6 then ((zaw.f k x234000 x234001 x234002).bind fun t238 => (if t238 = true then (some (x234000 == 3)) else (some false))) else (some false)))
def zaz.f (k : Nat) (a0 : Int) (a1_0 : Int) (a1_1 : Int) (a1_2 : ByteArray) : Option (Bool) := if a0 ≥ 0 then (zaz.j0 k a0 (decide (a0 ≤ 4)) a1_0 a1_1 a1_2) else (zaz.j0 k a0 false a1_0 a1_1 a1_2)
set_option maxHeartbeats 8000000 in
set_option maxRecDepth 100000 in
theorem zaz.calls (k : Nat) (a0 : Int) (a1_0 : Int) (a1_1 : Int) (a1_2 : ByteArray) (r : Bool) (w : World) (h : zaz.f k a0 a1_0 a1_1 a1_2 = some r) :
  Calls Tryd.prog 39 #[.int .i64 a0, .agg #[.int .i64 a1_0, .int .i64 a1_1, .string a1_2]] w fun e w' => e = .returned (.bool r) ∧ Below w.heap.size w w' := by
 have hu38 := Tryd.underlying38
 have HB := zad.mk (Below.refl w.heap.size w)
 have H : (if a0 ≥ 0 then (zaz.j0 k a0 (decide (a0 ≤ 4)) a1_0 a1_1 a1_2) else (zaz.j0 k a0 false a1_0 a1_1 a1_2)) = some r := h
 clear h
 have HC3 := zad.mk H
 clear H
 go_enter Tryd.func39, Tryd.ntmps39
 go_upto_region 1 with (first | ((with_reducible refine za7 (N := 3) rfl ?_); refine za8 ?hg (N := 3) ?hd (cs := #[.int .i64 a1_0, .int .i64 a1_1, .string a1_2]) (t := 38) ?hr ?_; (case hd => rfl); (case hg => rfl); (case hr => first | (go_simp; done) | (go_simp; rfl)); intro gb233 hg w4 hbox hb; have n0_ := zad.mk (zaq (by repeat (first | (with_reducible first | exact HB.out | apply zac | apply zaa | apply zab) | exact HB.out)) hb); have n1_ := zad.mk (hbox); have n2_ := zad.mk ((by rw [hg]; exact (zas (by repeat (first | (with_reducible first | exact HB.out | apply zac | apply zaa | apply zab) | exact HB.out))) : w.heap.size ≤ gb233)); have n3_ := zad.mk ((by rw [hg]; exact (zas (by repeat (first | (with_reducible first | exact HB.out | apply zac | apply zaa | apply zab) | exact HB.out))) : w.heap.size ≤ gb233)); clear HB; have HB := n0_; have BK233 := n1_; have GW233 := n2_; have GE233 := n3_; clear n0_ n1_ n2_ n3_; clear hb hbox hg))
 (try simp only [Act.put, List.setIfInBounds_toArray, List.set_cons_zero, List.set_cons_succ])
 go_cut [10] (fun v10 wc => ∃ (kq : Nat) (x10_2 : Bool), v10 = .bool x10_2 ∧ zad (zaz.j0 kq a0 x10_2 a1_0 a1_1 a1_2 = some r) ∧ zad (kq ≤ k) ∧ zad (wc.heap[gb233]? = some (.cells #[.int .i64 a1_0, .int .i64 a1_1, .string a1_2] 38 (0, 0))) ∧ zad (Below w.heap.size w wc))
 case first =>
  have H := HC3.out
  clear HC3
  by_cases c5 : a0 ≥ 0
  ·rw [if_pos c5] at H
   have c5b0 : decide (0 ≤ a0) = true := decide_eq_true c5
   clear c5
   (first | rw [c5b0] | (simp only [i64_w]; rw [c5b0]) | skip)
   have H' := zad.mk H
   clear H
   go_wp2
   go_meet
   case rel => exact ⟨_, (decide (a0 ≤ 4)), (by first | rfl | (simp; done) | (simp [*]; done)), H', ⟨by first | omega | exact Nat.le_refl _⟩, ⟨by (with_reducible repeat (first | refine zah ?_ _ | refine zaj ?_ | refine zai ?_ _)); exact BK233.out⟩, ⟨by repeat (first | (with_reducible first | exact HB.out | apply zac | apply zaa | apply zab | refine zaf ?_ GE233.out) | exact HB.out)⟩⟩
  ·rw [if_neg c5] at H
   have c5b0 : decide (0 ≤ a0) = false := decide_eq_false c5
   clear c5
   (first | rw [c5b0] | (simp only [i64_w]; rw [c5b0]) | skip)
   have H' := zad.mk H
   clear H
   go_wp2
   go_meet
   case rel => exact ⟨_, (false), (by first | rfl | (simp; done) | (simp [*]; done)), H', ⟨by first | omega | exact Nat.le_refl _⟩, ⟨by (with_reducible repeat (first | refine zah ?_ _ | refine zaj ?_ | refine zai ?_ _)); exact BK233.out⟩, ⟨by repeat (first | (with_reducible first | exact HB.out | apply zac | apply zaa | apply zab | refine zaf ?_ GE233.out) | exact HB.out)⟩⟩
 case rest =>
  clear HC3
  try clear p2
  try clear c3
  try clear c5
  try clear c5b0
  obtain ⟨kq, x10_2, rfl, HA, HJ2, BK233, HB⟩ := hcut
  cases kq with
  | zero => exact absurd HA.out (by simp [zaz.j0])
  | succ kj2 =>
   have H := HA.out
   clear HA
   simp only [zaz.j0] at H
   by_cases c6 : x10_2 = true
   ·subst c6
    have H1 : ((zbc.f kj2 a1_0 a1_1 a1_2).bind fun t234 => (some t234)) = some r := by rw [if_pos rfl] at H; exact H
    clear H
    have H := H1
    clear H1
    replace H := Option.bind_eq_some_iff.mp H
    obtain ⟨t234, A70, H⟩ := H
    replace H : (some t234) = some r := H
    have A7 := zad.mk A70
    clear A70
    obtain rfl := Option.some.inj H
    obtain ⟨hcz8_0, hcz8_1, hcz8_2⟩ := cq3 BK233.out
    obtain ⟨hfz8_0, hfz8_1, hfz8_2⟩ := fq3 BK233.out
    go_wp2_with (first | ((with_reducible refine za0 (f := 35) rfl ?_); refine zbq (some 12) rfl rfl Tryd.func35 (by kernel_rfl) rfl #[.agg #[.int .i64 a1_0, .int .i64 a1_1, .string a1_2]] rfl (by (try simp only [List.map_toArray, List.map_cons, List.map_nil]); first | done | rfl | (simp only [List.length_drop, List.length_take]; rfl)) ?_; (with_reducible refine (zbc.calls kj2 a1_0 a1_1 a1_2 t234 _ A7.out).mono ?_); rintro e w9 ⟨rfl, hb⟩; refine ⟨_, rfl, ?_⟩; have n0_ := zad.mk (zav (g := gb233) (o := .cells #[.int .i64 a1_0, .int .i64 a1_1, .string a1_2] 38 (0, 0)) (by (with_reducible repeat (first | refine zah ?_ _ | refine zaj ?_ | refine zai ?_ _)); exact BK233.out) hb); have n1_ := zad.mk (zaq (by repeat (first | (with_reducible first | exact HB.out | apply zac | apply zaa | apply zab | refine zaf ?_ GE233.out) | exact HB.out)) hb); clear BK233; clear HB; have BK233 := n0_; have HB := n1_; clear n0_ n1_; (try clear hb); (try clear hb2); (try clear hk); (try clear hi)))
    go_ret
    exact ⟨by first | rfl | (simp [zam, zal] <;> rfl) | (simp [*, zam, zal] <;> rfl), by repeat (first | (with_reducible first | exact HB.out | apply zac | apply zaa | apply zab | refine zaf ?_ GE233.out) | exact HB.out)⟩
   ·replace c6 := Bool.eq_false_iff.mpr c6
    subst c6
    have H1 : (if a0 = 5 then ((zaw.f kj2 a1_0 a1_1 a1_2).bind fun t235 => (if t235 = true then (if a1_0 = 1 then (some true) else (if a0 = 6 then ((zaw.f kj2 a1_0 a1_1 a1_2).bind fun t236 => (if t236 = true then (some (a1_0 == 3)) else (some false))) else (some false))) else (if a0 = 6 then ((zaw.f kj2 a1_0 a1_1 a1_2).bind fun t237 => (if t237 = true then (some (a1_0 == 3)) else (some false))) else (some false)))) else (if a0 = 6 then ((zaw.f kj2 a1_0 a1_1 a1_2).bind fun t238 => (if t238 = true then (some (a1_0 == 3)) else (some false))) else (some false))) = some r := by rw [if_neg (show ¬ (false = true) by decide)] at H; exact H
    clear H
    have H := H1
    clear H1
    by_cases c10 : a0 = 5
    ·rw [if_pos c10] at H
     have c10b0 : (a0 == 5) = true := beq_iff_eq.mpr c10
     have c10b1 : (a0 != 5) = false := bne_eq_false_iff_eq.mpr c10
     clear c10
     replace H := Option.bind_eq_some_iff.mp H
     obtain ⟨t235, A110, H⟩ := H
     replace H : (if t235 = true then (if a1_0 = 1 then (some true) else (if a0 = 6 then ((zaw.f kj2 a1_0 a1_1 a1_2).bind fun t236 => (if t236 = true then (some (a1_0 == 3)) else (some false))) else (some false))) else (if a0 = 6 then ((zaw.f kj2 a1_0 a1_1 a1_2).bind fun t237 => (if t237 = true then (some (a1_0 == 3)) else (some false))) else (some false))) = some r := H
     have A11 := zad.mk A110
     clear A110
     by_cases c12 : t235 = true
     ·subst c12
      have H1 : (if a1_0 = 1 then (some true) else (if a0 = 6 then ((zaw.f kj2 a1_0 a1_1 a1_2).bind fun t236 => (if t236 = true then (some (a1_0 == 3)) else (some false))) else (some false))) = some r := by rw [if_pos rfl] at H; exact H
      clear H
      have H := H1
      clear H1
      by_cases c13 : a1_0 = 1
      ·rw [if_pos c13] at H
       have c13b0 : (a1_0 == 1) = true := beq_iff_eq.mpr c13
       have c13b1 : (a1_0 != 1) = false := bne_eq_false_iff_eq.mpr c13
       clear c13
       obtain rfl := Option.some.inj H
       obtain ⟨hcz14_0, hcz14_1, hcz14_2⟩ := cq3 BK233.out
       obtain ⟨hfz14_0, hfz14_1, hfz14_2⟩ := fq3 BK233.out
       go_wp2_with (first | (go_at_call 37; (with_reducible refine (zaw.calls kj2 a1_0 a1_1 a1_2 true _ A11.out).mono ?_); rintro e w15 ⟨rfl, hb⟩; have n0_ := zad.mk (zav (g := gb233) (o := .cells #[.int .i64 a1_0, .int .i64 a1_1, .string a1_2] 38 (0, 0)) (by (with_reducible repeat (first | refine zah ?_ _ | refine zaj ?_ | refine zai ?_ _)); exact BK233.out) hb); have n1_ := zad.mk (zaq (by repeat (first | (with_reducible first | exact HB.out | apply zac | apply zaa | apply zab | refine zaf ?_ GE233.out) | exact HB.out)) hb); clear BK233; clear HB; have BK233 := n0_; have HB := n1_; clear n0_ n1_; (try clear hb); (try clear hb2); (try clear hk); (try clear hi); obtain ⟨hcz16_0, hcz16_1, hcz16_2⟩ := cq3 BK233.out; obtain ⟨hfz16_0, hfz16_1, hfz16_2⟩ := fq3 BK233.out))
       go_ret
       exact ⟨by first | rfl | (simp [zam, zal] <;> rfl) | (simp [*, zam, zal] <;> rfl), by repeat (first | (with_reducible first | exact HB.out | apply zac | apply zaa | apply zab | refine zaf ?_ GE233.out) | exact HB.out)⟩
      ·rw [if_neg c13] at H
       have c13b0 : (a1_0 == 1) = false := beq_eq_false_iff_ne.mpr c13
       have c13b1 : (a1_0 != 1) = true := bne_iff_ne.mpr c13
       by_cases c17 : a0 = 6
       ·rw [if_pos c17] at H
        have c17b0 : (a0 == 6) = true := beq_iff_eq.mpr c17
        have c17b1 : (a0 != 6) = false := bne_eq_false_iff_eq.mpr c17
        clear c17
        replace H := Option.bind_eq_some_iff.mp H
        obtain ⟨t236, A180, H⟩ := H
        replace H : (if t236 = true then (some (a1_0 == 3)) else (some false)) = some r := H
        have A18 := zad.mk A180
        clear A180
        by_cases c19 : t236 = true
        ·subst c19
         have H1 : (some (a1_0 == 3)) = some r := by rw [if_pos rfl] at H; exact H
         clear H
         have H := H1
         clear H1
         obtain rfl := Option.some.inj H
         obtain ⟨hcz20_0, hcz20_1, hcz20_2⟩ := cq3 BK233.out
         obtain ⟨hfz20_0, hfz20_1, hfz20_2⟩ := fq3 BK233.out
         go_wp2_with (first | (go_at_call 37; (with_reducible refine (zaw.calls kj2 a1_0 a1_1 a1_2 true _ A11.out).mono ?_); rintro e w21 ⟨rfl, hb⟩; have n0_ := zad.mk (zav (g := gb233) (o := .cells #[.int .i64 a1_0, .int .i64 a1_1, .string a1_2] 38 (0, 0)) (by (with_reducible repeat (first | refine zah ?_ _ | refine zaj ?_ | refine zai ?_ _)); exact BK233.out) hb); have n1_ := zad.mk (zaq (by repeat (first | (with_reducible first | exact HB.out | apply zac | apply zaa | apply zab | refine zaf ?_ GE233.out) | exact HB.out)) hb); clear BK233; clear HB; have BK233 := n0_; have HB := n1_; clear n0_ n1_; (try clear hb); (try clear hb2); (try clear hk); (try clear hi); obtain ⟨hcz22_0, hcz22_1, hcz22_2⟩ := cq3 BK233.out; obtain ⟨hfz22_0, hfz22_1, hfz22_2⟩ := fq3 BK233.out) | (go_at_call 37; (with_reducible refine (zaw.calls kj2 a1_0 a1_1 a1_2 true _ A18.out).mono ?_); rintro e w23 ⟨rfl, hb⟩; have n0_ := zad.mk (zav (g := gb233) (o := .cells #[.int .i64 a1_0, .int .i64 a1_1, .string a1_2] 38 (0, 0)) (by (with_reducible repeat (first | refine zah ?_ _ | refine zaj ?_ | refine zai ?_ _)); exact BK233.out) hb); have n1_ := zad.mk (zaq (by repeat (first | (with_reducible first | exact HB.out | apply zac | apply zaa | apply zab | refine zaf ?_ GE233.out) | exact HB.out)) hb); clear BK233; clear HB; have BK233 := n0_; have HB := n1_; clear n0_ n1_; (try clear hb); (try clear hb2); (try clear hk); (try clear hi); obtain ⟨hcz24_0, hcz24_1, hcz24_2⟩ := cq3 BK233.out; obtain ⟨hfz24_0, hfz24_1, hfz24_2⟩ := fq3 BK233.out))
         go_ret
         exact ⟨by first | rfl | (simp [zam, zal] <;> rfl) | (simp [*, zam, zal] <;> rfl), by repeat (first | (with_reducible first | exact HB.out | apply zac | apply zaa | apply zab | refine zaf ?_ GE233.out) | exact HB.out)⟩
        ·replace c19 := Bool.eq_false_iff.mpr c19
         subst c19
         have H1 : (some false) = some r := by rw [if_neg (show ¬ (false = true) by decide)] at H; exact H
         clear H
         have H := H1
         clear H1
         obtain rfl := Option.some.inj H
         obtain ⟨hcz25_0, hcz25_1, hcz25_2⟩ := cq3 BK233.out
         obtain ⟨hfz25_0, hfz25_1, hfz25_2⟩ := fq3 BK233.out
         go_wp2_with (first | (go_at_call 37; (with_reducible refine (zaw.calls kj2 a1_0 a1_1 a1_2 true _ A11.out).mono ?_); rintro e w26 ⟨rfl, hb⟩; have n0_ := zad.mk (zav (g := gb233) (o := .cells #[.int .i64 a1_0, .int .i64 a1_1, .string a1_2] 38 (0, 0)) (by (with_reducible repeat (first | refine zah ?_ _ | refine zaj ?_ | refine zai ?_ _)); exact BK233.out) hb); have n1_ := zad.mk (zaq (by repeat (first | (with_reducible first | exact HB.out | apply zac | apply zaa | apply zab | refine zaf ?_ GE233.out) | exact HB.out)) hb); clear BK233; clear HB; have BK233 := n0_; have HB := n1_; clear n0_ n1_; (try clear hb); (try clear hb2); (try clear hk); (try clear hi); obtain ⟨hcz27_0, hcz27_1, hcz27_2⟩ := cq3 BK233.out; obtain ⟨hfz27_0, hfz27_1, hfz27_2⟩ := fq3 BK233.out) | (go_at_call 37; (with_reducible refine (zaw.calls kj2 a1_0 a1_1 a1_2 false _ A18.out).mono ?_); rintro e w28 ⟨rfl, hb⟩; have n0_ := zad.mk (zav (g := gb233) (o := .cells #[.int .i64 a1_0, .int .i64 a1_1, .string a1_2] 38 (0, 0)) (by (with_reducible repeat (first | refine zah ?_ _ | refine zaj ?_ | refine zai ?_ _)); exact BK233.out) hb); have n1_ := zad.mk (zaq (by repeat (first | (with_reducible first | exact HB.out | apply zac | apply zaa | apply zab | refine zaf ?_ GE233.out) | exact HB.out)) hb); clear BK233; clear HB; have BK233 := n0_; have HB := n1_; clear n0_ n1_; (try clear hb); (try clear hb2); (try clear hk); (try clear hi)))
         go_ret
         exact ⟨by first | rfl | (exfalso; have e1 := beq_iff_eq.mp c10b0; first | (have e2 := beq_iff_eq.mp c17b0; omega) | (have e2 := beq_iff_eq.mp c32b0; omega)) | (simp [zam, zal] <;> rfl) | (simp [*, zam, zal] <;> rfl), by repeat (first | (with_reducible first | exact HB.out | apply zac | apply zaa | apply zab | refine zaf ?_ GE233.out) | exact HB.out)⟩
       ·rw [if_neg c17] at H
        have c17b0 : (a0 == 6) = false := beq_eq_false_iff_ne.mpr c17
        have c17b1 : (a0 != 6) = true := bne_iff_ne.mpr c17
        obtain rfl := Option.some.inj H
        obtain ⟨hcz29_0, hcz29_1, hcz29_2⟩ := cq3 BK233.out
        obtain ⟨hfz29_0, hfz29_1, hfz29_2⟩ := fq3 BK233.out
        go_wp2_with (first | (go_at_call 37; (with_reducible refine (zaw.calls kj2 a1_0 a1_1 a1_2 true _ A11.out).mono ?_); rintro e w30 ⟨rfl, hb⟩; have n0_ := zad.mk (zav (g := gb233) (o := .cells #[.int .i64 a1_0, .int .i64 a1_1, .string a1_2] 38 (0, 0)) (by (with_reducible repeat (first | refine zah ?_ _ | refine zaj ?_ | refine zai ?_ _)); exact BK233.out) hb); have n1_ := zad.mk (zaq (by repeat (first | (with_reducible first | exact HB.out | apply zac | apply zaa | apply zab | refine zaf ?_ GE233.out) | exact HB.out)) hb); clear BK233; clear HB; have BK233 := n0_; have HB := n1_; clear n0_ n1_; (try clear hb); (try clear hb2); (try clear hk); (try clear hi); obtain ⟨hcz31_0, hcz31_1, hcz31_2⟩ := cq3 BK233.out; obtain ⟨hfz31_0, hfz31_1, hfz31_2⟩ := fq3 BK233.out))
        go_ret
        exact ⟨by first | rfl | (simp [zam, zal] <;> rfl) | (simp [*, zam, zal] <;> rfl), by repeat (first | (with_reducible first | exact HB.out | apply zac | apply zaa | apply zab | refine zaf ?_ GE233.out) | exact HB.out)⟩
     ·replace c12 := Bool.eq_false_iff.mpr c12
      subst c12
      have H1 : (if a0 = 6 then ((zaw.f kj2 a1_0 a1_1 a1_2).bind fun t237 => (if t237 = true then (some (a1_0 == 3)) else (some false))) else (some false)) = some r := by rw [if_neg (show ¬ (false = true) by decide)] at H; exact H
      clear H
      have H := H1
      clear H1
      by_cases c32 : a0 = 6
      ·rw [if_pos c32] at H
       have c32b0 : (a0 == 6) = true := beq_iff_eq.mpr c32
       have c32b1 : (a0 != 6) = false := bne_eq_false_iff_eq.mpr c32
       clear c32
       replace H := Option.bind_eq_some_iff.mp H
       obtain ⟨t237, A330, H⟩ := H
       replace H : (if t237 = true then (some (a1_0 == 3)) else (some false)) = some r := H
       have A33 := zad.mk A330
       clear A330
       by_cases c34 : t237 = true
       ·subst c34
        have H1 : (some (a1_0 == 3)) = some r := by rw [if_pos rfl] at H; exact H
        clear H
        have H := H1
        clear H1
        obtain rfl := Option.some.inj H
        obtain ⟨hcz35_0, hcz35_1, hcz35_2⟩ := cq3 BK233.out
        obtain ⟨hfz35_0, hfz35_1, hfz35_2⟩ := fq3 BK233.out
        go_wp2_with (first | (go_at_call 37; (with_reducible refine (zaw.calls kj2 a1_0 a1_1 a1_2 false _ A11.out).mono ?_); rintro e w36 ⟨rfl, hb⟩; have n0_ := zad.mk (zav (g := gb233) (o := .cells #[.int .i64 a1_0, .int .i64 a1_1, .string a1_2] 38 (0, 0)) (by (with_reducible repeat (first | refine zah ?_ _ | refine zaj ?_ | refine zai ?_ _)); exact BK233.out) hb); have n1_ := zad.mk (zaq (by repeat (first | (with_reducible first | exact HB.out | apply zac | apply zaa | apply zab | refine zaf ?_ GE233.out) | exact HB.out)) hb); clear BK233; clear HB; have BK233 := n0_; have HB := n1_; clear n0_ n1_; (try clear hb); (try clear hb2); (try clear hk); (try clear hi); obtain ⟨hcz37_0, hcz37_1, hcz37_2⟩ := cq3 BK233.out; obtain ⟨hfz37_0, hfz37_1, hfz37_2⟩ := fq3 BK233.out) | (go_at_call 37; (with_reducible refine (zaw.calls kj2 a1_0 a1_1 a1_2 true _ A33.out).mono ?_); rintro e w38 ⟨rfl, hb⟩; have n0_ := zad.mk (zav (g := gb233) (o := .cells #[.int .i64 a1_0, .int .i64 a1_1, .string a1_2] 38 (0, 0)) (by (with_reducible repeat (first | refine zah ?_ _ | refine zaj ?_ | refine zai ?_ _)); exact BK233.out) hb); have n1_ := zad.mk (zaq (by repeat (first | (with_reducible first | exact HB.out | apply zac | apply zaa | apply zab | refine zaf ?_ GE233.out) | exact HB.out)) hb); clear BK233; clear HB; have BK233 := n0_; have HB := n1_; clear n0_ n1_; (try clear hb); (try clear hb2); (try clear hk); (try clear hi); obtain ⟨hcz39_0, hcz39_1, hcz39_2⟩ := cq3 BK233.out; obtain ⟨hfz39_0, hfz39_1, hfz39_2⟩ := fq3 BK233.out))
        go_ret
        exact ⟨by first | rfl | (exfalso; have e1 := beq_iff_eq.mp c10b0; first | (have e2 := beq_iff_eq.mp c17b0; omega) | (have e2 := beq_iff_eq.mp c32b0; omega)) | (simp [zam, zal] <;> rfl) | (simp [*, zam, zal] <;> rfl), by repeat (first | (with_reducible first | exact HB.out | apply zac | apply zaa | apply zab | refine zaf ?_ GE233.out) | exact HB.out)⟩
       ·replace c34 := Bool.eq_false_iff.mpr c34
        subst c34
        have H1 : (some false) = some r := by rw [if_neg (show ¬ (false = true) by decide)] at H; exact H
        clear H
        have H := H1
        clear H1
        obtain rfl := Option.some.inj H
        obtain ⟨hcz40_0, hcz40_1, hcz40_2⟩ := cq3 BK233.out
        obtain ⟨hfz40_0, hfz40_1, hfz40_2⟩ := fq3 BK233.out
        go_wp2_with (first | (go_at_call 37; (with_reducible refine (zaw.calls kj2 a1_0 a1_1 a1_2 false _ A11.out).mono ?_); rintro e w41 ⟨rfl, hb⟩; have n0_ := zad.mk (zav (g := gb233) (o := .cells #[.int .i64 a1_0, .int .i64 a1_1, .string a1_2] 38 (0, 0)) (by (with_reducible repeat (first | refine zah ?_ _ | refine zaj ?_ | refine zai ?_ _)); exact BK233.out) hb); have n1_ := zad.mk (zaq (by repeat (first | (with_reducible first | exact HB.out | apply zac | apply zaa | apply zab | refine zaf ?_ GE233.out) | exact HB.out)) hb); clear BK233; clear HB; have BK233 := n0_; have HB := n1_; clear n0_ n1_; (try clear hb); (try clear hb2); (try clear hk); (try clear hi); obtain ⟨hcz42_0, hcz42_1, hcz42_2⟩ := cq3 BK233.out; obtain ⟨hfz42_0, hfz42_1, hfz42_2⟩ := fq3 BK233.out) | (go_at_call 37; (with_reducible refine (zaw.calls kj2 a1_0 a1_1 a1_2 false _ A33.out).mono ?_); rintro e w43 ⟨rfl, hb⟩; have n0_ := zad.mk (zav (g := gb233) (o := .cells #[.int .i64 a1_0, .int .i64 a1_1, .string a1_2] 38 (0, 0)) (by (with_reducible repeat (first | refine zah ?_ _ | refine zaj ?_ | refine zai ?_ _)); exact BK233.out) hb); have n1_ := zad.mk (zaq (by repeat (first | (with_reducible first | exact HB.out | apply zac | apply zaa | apply zab | refine zaf ?_ GE233.out) | exact HB.out)) hb); clear BK233; clear HB; have BK233 := n0_; have HB := n1_; clear n0_ n1_; (try clear hb); (try clear hb2); (try clear hk); (try clear hi)))
        go_ret
        exact ⟨by first | rfl | (simp [zam, zal] <;> rfl) | (simp [*, zam, zal] <;> rfl), by repeat (first | (with_reducible first | exact HB.out | apply zac | apply zaa | apply zab | refine zaf ?_ GE233.out) | exact HB.out)⟩
      ·rw [if_neg c32] at H
       have c32b0 : (a0 == 6) = false := beq_eq_false_iff_ne.mpr c32
       have c32b1 : (a0 != 6) = true := bne_iff_ne.mpr c32
       obtain rfl := Option.some.inj H
       obtain ⟨hcz44_0, hcz44_1, hcz44_2⟩ := cq3 BK233.out
       obtain ⟨hfz44_0, hfz44_1, hfz44_2⟩ := fq3 BK233.out
       go_wp2_with (first | (go_at_call 37; (with_reducible refine (zaw.calls kj2 a1_0 a1_1 a1_2 false _ A11.out).mono ?_); rintro e w45 ⟨rfl, hb⟩; have n0_ := zad.mk (zav (g := gb233) (o := .cells #[.int .i64 a1_0, .int .i64 a1_1, .string a1_2] 38 (0, 0)) (by (with_reducible repeat (first | refine zah ?_ _ | refine zaj ?_ | refine zai ?_ _)); exact BK233.out) hb); have n1_ := zad.mk (zaq (by repeat (first | (with_reducible first | exact HB.out | apply zac | apply zaa | apply zab | refine zaf ?_ GE233.out) | exact HB.out)) hb); clear BK233; clear HB; have BK233 := n0_; have HB := n1_; clear n0_ n1_; (try clear hb); (try clear hb2); (try clear hk); (try clear hi)))
       go_ret
       exact ⟨by first | rfl | (simp [zam, zal] <;> rfl) | (simp [*, zam, zal] <;> rfl), by repeat (first | (with_reducible first | exact HB.out | apply zac | apply zaa | apply zab | refine zaf ?_ GE233.out) | exact HB.out)⟩
    ·rw [if_neg c10] at H
     have c10b0 : (a0 == 5) = false := beq_eq_false_iff_ne.mpr c10
     have c10b1 : (a0 != 5) = true := bne_iff_ne.mpr c10
     by_cases c46 : a0 = 6
     ·rw [if_pos c46] at H
      have c46b0 : (a0 == 6) = true := beq_iff_eq.mpr c46
      have c46b1 : (a0 != 6) = false := bne_eq_false_iff_eq.mpr c46
      clear c46
      replace H := Option.bind_eq_some_iff.mp H
      obtain ⟨t238, A470, H⟩ := H
      replace H : (if t238 = true then (some (a1_0 == 3)) else (some false)) = some r := H
      have A47 := zad.mk A470
      clear A470
      by_cases c48 : t238 = true
      ·subst c48
       have H1 : (some (a1_0 == 3)) = some r := by rw [if_pos rfl] at H; exact H
       clear H
       have H := H1
       clear H1
       obtain rfl := Option.some.inj H
       obtain ⟨hcz49_0, hcz49_1, hcz49_2⟩ := cq3 BK233.out
       obtain ⟨hfz49_0, hfz49_1, hfz49_2⟩ := fq3 BK233.out
       go_wp2_with (first | (go_at_call 37; (with_reducible refine (zaw.calls kj2 a1_0 a1_1 a1_2 true _ A47.out).mono ?_); rintro e w50 ⟨rfl, hb⟩; have n0_ := zad.mk (zav (g := gb233) (o := .cells #[.int .i64 a1_0, .int .i64 a1_1, .string a1_2] 38 (0, 0)) (by (with_reducible repeat (first | refine zah ?_ _ | refine zaj ?_ | refine zai ?_ _)); exact BK233.out) hb); have n1_ := zad.mk (zaq (by repeat (first | (with_reducible first | exact HB.out | apply zac | apply zaa | apply zab | refine zaf ?_ GE233.out) | exact HB.out)) hb); clear BK233; clear HB; have BK233 := n0_; have HB := n1_; clear n0_ n1_; (try clear hb); (try clear hb2); (try clear hk); (try clear hi); obtain ⟨hcz51_0, hcz51_1, hcz51_2⟩ := cq3 BK233.out; obtain ⟨hfz51_0, hfz51_1, hfz51_2⟩ := fq3 BK233.out))
       go_ret
       exact ⟨by first | rfl | (simp [zam, zal] <;> rfl) | (simp [*, zam, zal] <;> rfl), by repeat (first | (with_reducible first | exact HB.out | apply zac | apply zaa | apply zab | refine zaf ?_ GE233.out) | exact HB.out)⟩
      ·replace c48 := Bool.eq_false_iff.mpr c48
       subst c48
       have H1 : (some false) = some r := by rw [if_neg (show ¬ (false = true) by decide)] at H; exact H
       clear H
       have H := H1
       clear H1
       obtain rfl := Option.some.inj H
       obtain ⟨hcz52_0, hcz52_1, hcz52_2⟩ := cq3 BK233.out
       obtain ⟨hfz52_0, hfz52_1, hfz52_2⟩ := fq3 BK233.out
       go_wp2_with (first | (go_at_call 37; (with_reducible refine (zaw.calls kj2 a1_0 a1_1 a1_2 false _ A47.out).mono ?_); rintro e w53 ⟨rfl, hb⟩; have n0_ := zad.mk (zav (g := gb233) (o := .cells #[.int .i64 a1_0, .int .i64 a1_1, .string a1_2] 38 (0, 0)) (by (with_reducible repeat (first | refine zah ?_ _ | refine zaj ?_ | refine zai ?_ _)); exact BK233.out) hb); have n1_ := zad.mk (zaq (by repeat (first | (with_reducible first | exact HB.out | apply zac | apply zaa | apply zab | refine zaf ?_ GE233.out) | exact HB.out)) hb); clear BK233; clear HB; have BK233 := n0_; have HB := n1_; clear n0_ n1_; (try clear hb); (try clear hb2); (try clear hk); (try clear hi)))
       go_ret
       exact ⟨by first | rfl | (simp [zam, zal] <;> rfl) | (simp [*, zam, zal] <;> rfl), by repeat (first | (with_reducible first | exact HB.out | apply zac | apply zaa | apply zab | refine zaf ?_ GE233.out) | exact HB.out)⟩
     ·rw [if_neg c46] at H
      have c46b0 : (a0 == 6) = false := beq_eq_false_iff_ne.mpr c46
      have c46b1 : (a0 != 6) = true := bne_iff_ne.mpr c46
      obtain rfl := Option.some.inj H
      go_wp2
      go_ret
      exact ⟨by first | rfl | (simp [zam, zal] <;> rfl) | (simp [*, zam, zal] <;> rfl), by repeat (first | (with_reducible first | exact HB.out | apply zac | apply zaa | apply zab | refine zaf ?_ GE233.out) | exact HB.out)⟩
end Go.Proofs.YtikmmigfdchcpaaDoor.PP
