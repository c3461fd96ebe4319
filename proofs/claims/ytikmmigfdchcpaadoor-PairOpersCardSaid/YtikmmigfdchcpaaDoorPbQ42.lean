/-
  Proved: a part of the proof of the claim's statement (text Q42 of it).
  Conditions: none of ours.
-/
import Derived.Test.YtikmmigfdchcpaaDoorPbQ0
import Derived.Test.YtikmmigfdchcpaaDoorPbQ37
import Derived.Test.YtikmmigfdchcpaaDoorPbQ38
namespace Go.Proofs.YtikmmigfdchcpaaDoor.PP
open Go.RowKit Go.Proofs.YtikmmigfdchcpaaDoorW.PrintWords Go.Proofs.YtikmmigfdchcpaaDoorW.PrintLast Go.Proofs.YtikmmigfdchcpaaDoorW.PrintMore
set_option linter.unusedVariables false
set_option linter.unusedSimpArgs false
def za1.j0 : Nat → Int → Bool → Int → Int → ByteArray → Option (Bool)
 | 0, _, _, _, _, _ => none
 | k + 1, x0, x10, x234000, x234001, x234002 => if x10 = true then ((zbi.f k x234000 x234001 x234002).bind fun t234 => (some t234)) else (if x0 = 5 then ((zax.f k x234000 x234001 x234002).bind fun t235 => (if t235 = true then (if x234000 = 1 then (some true) else (if x0 = 6 then ((zax.f k x234000 x234001 x234002).bind fun t236 => (if t236 = true then (some (x234000 == 3)) else (some false))) else (some false))) else (if x0 = 6 then ((zax.f k x234000 x234001 x234002).bind fun t237 => (if t237 = true then (some (x234000 == 3)) else (some false))) else (some false)))) else (if x0 = 6 then ((zax.f k x234000 x234001 x234002).bind fun t238 => (if t238 = true then (some (x234000 == 3)) else (some false))) else (some false)))
def za1.f (k : Nat) (a0 : Int) (a1_0 : Int) (a1_1 : Int) (a1_2 : ByteArray) : Option (Bool) := if a0 ≥ 0 then (za1.j0 k a0 (decide (a0 ≤ 4)) a1_0 a1_1 a1_2) else (za1.j0 k a0 false a1_0 a1_1 a1_2)
set_option maxHeartbeats 8000000 in
set_option maxRecDepth 100000 in
theorem za1.calls (k : Nat) (a0 : Int) (a1_0 : Int) (a1_1 : Int) (a1_2 : ByteArray) (r : Bool) (w : World) (h : za1.f k a0 a1_0 a1_1 a1_2 = some r) :
  Calls Tryd.prog 39 #[.int .i64 a0, .agg #[.int .i64 a1_0, .int .i64 a1_1, .string a1_2]] w fun e w' => e = .returned (.bool r) ∧ Below w.heap.size w w' := by
 have hu38 := Tryd.underlying38
 have HB := zae.mk (Below.refl w.heap.size w)
 have H : (if a0 ≥ 0 then (za1.j0 k a0 (decide (a0 ≤ 4)) a1_0 a1_1 a1_2) else (za1.j0 k a0 false a1_0 a1_1 a1_2)) = some r := h
 clear h
 have HC3 := zae.mk H
 clear H
 go_enter Tryd.func39, Tryd.ntmps39
 go_upto_region 1 with (first | ((with_reducible refine za8 (N := 3) rfl ?_); refine za7 ?hg (N := 3) ?hd (cs := #[.int .i64 a1_0, .int .i64 a1_1, .string a1_2]) (t := 38) ?hr ?_; (case hd => rfl); (case hg => rfl); (case hr => first | (go_simp; done) | (go_simp; rfl)); intro gb233 hg w4 hbox hb; have n0_ := zae.mk (zaq (by repeat with_reducible first | exact HB.out | apply zad | apply zaa | apply zac) hb); have n1_ := zae.mk (hbox); have n2_ := zae.mk ((by rw [hg]; exact (zav (by repeat with_reducible first | exact HB.out | apply zad | apply zaa | apply zac)) : w.heap.size ≤ gb233)); have n3_ := n2_; clear HB; have HB := n0_; have BK233 := n1_; have GW233 := n2_; have GE233 := n3_; clear n0_ n1_ n2_ n3_; clear hb hbox hg))
 (try simp only [Act.put, List.setIfInBounds_toArray, List.set_cons_zero, List.set_cons_succ])
 go_cut [10] (fun v10 wc => ∃ (kq : Nat) (x10_2 : Bool), v10 = .bool x10_2 ∧ zae (za1.j0 kq a0 x10_2 a1_0 a1_1 a1_2 = some r) ∧ zae (kq ≤ k) ∧ zae (wc.heap[gb233]? = some (.cells #[.int .i64 a1_0, .int .i64 a1_1, .string a1_2] 38 (0, 0))) ∧ zae (Below w.heap.size w wc))
 case first =>
  have H := HC3.out
  clear HC3
  by_cases c5 : a0 ≥ 0
  ·rw [if_pos c5] at H
   have c5b0 : decide (0 ≤ a0) = true := decide_eq_true c5
   clear c5
   (first | rw [c5b0] | (simp only [i64_w]; rw [c5b0]) | skip)
   have H' := zae.mk H
   clear H
   go_wp2
   go_meet
   case rel => exact ⟨_, (decide (a0 ≤ 4)), (by first | rfl | (simp; done) | (simp [*]; done)), H', ⟨by first | omega | exact Nat.le_refl _⟩, ⟨by (with_reducible repeat (first | refine zai ?_ _ | refine zak ?_ | refine zaj ?_ _)); exact BK233.out⟩, ⟨by repeat with_reducible first | exact HB.out | apply zad | apply zaa | apply zac | refine zag ?_ GE233.out⟩⟩
  ·rw [if_neg c5] at H
   have c5b0 : decide (0 ≤ a0) = false := decide_eq_false c5
   clear c5
   (first | rw [c5b0] | (simp only [i64_w]; rw [c5b0]) | skip)
   have H' := zae.mk H
   clear H
   go_wp2
   go_meet
   case rel => exact ⟨_, (false), (by first | rfl | (simp; done) | (simp [*]; done)), H', ⟨by first | omega | exact Nat.le_refl _⟩, ⟨by (with_reducible repeat (first | refine zai ?_ _ | refine zak ?_ | refine zaj ?_ _)); exact BK233.out⟩, ⟨by repeat with_reducible first | exact HB.out | apply zad | apply zaa | apply zac | refine zag ?_ GE233.out⟩⟩
 case rest =>
  clear HC3
  try clear p2
  try clear c3
  try clear c5
  try clear c5b0
  obtain ⟨kq, x10_2, rfl, HA, HJ2, BK233, HB⟩ := hcut
  cases kq with
  | zero => exact absurd HA.out (by simp [za1.j0])
  | succ kj2 =>
   have H := HA.out
   clear HA
   simp only [za1.j0] at H
   by_cases c6 : x10_2 = true
   ·subst c6
    have H1 : ((zbi.f kj2 a1_0 a1_1 a1_2).bind fun t234 => (some t234)) = some r := by rw [if_pos rfl] at H; exact H
    clear H
    have H := H1
    clear H1
    replace H := Option.bind_eq_some_iff.mp H
    obtain ⟨t234, A70, H⟩ := H
    replace H : (some t234) = some r := H
    have A7 := zae.mk A70
    clear A70
    obtain rfl := Option.some.inj H
    obtain ⟨d8_0, d8_1, d8_2⟩ := cq3 BK233.out
    obtain ⟨e8_0, e8_1, e8_2⟩ := fq3 BK233.out
    go_wp2_with (first | ((with_reducible refine za3 (f := 35) rfl ?_); refine zbv (some 12) rfl rfl Tryd.func35 (by kernel_rfl) rfl #[.agg #[.int .i64 a1_0, .int .i64 a1_1, .string a1_2]] rfl (by (try simp only [List.map_toArray, List.map_cons, List.map_nil]); first | done | rfl | (simp only [List.length_drop, List.length_take]; rfl)) ?_; (with_reducible refine (zbi.calls kj2 a1_0 a1_1 a1_2 t234 _ A7.out).mono ?_); rintro e w9 ⟨rfl, hb⟩; refine ⟨_, rfl, ?_⟩; have n0_ := zae.mk (zau (g := gb233) (o := .cells #[.int .i64 a1_0, .int .i64 a1_1, .string a1_2] 38 (0, 0)) (by (with_reducible repeat (first | refine zai ?_ _ | refine zak ?_ | refine zaj ?_ _)); exact BK233.out) hb); have n1_ := zae.mk (zaq (by repeat with_reducible first | exact HB.out | apply zad | apply zaa | apply zac | refine zag ?_ GE233.out) hb); clear BK233; clear HB; have BK233 := n0_; have HB := n1_; clear n0_ n1_; (try clear hb); (try clear hb2); (try clear hk); (try clear hi)))
    go_ret
    exact ⟨by first | rfl | (simp [zam, zal] <;> rfl) | (simp [*, zam, zal] <;> rfl), by repeat with_reducible first | exact HB.out | apply zad | apply zaa | apply zac | refine zag ?_ GE233.out⟩
   ·replace c6 := Bool.eq_false_iff.mpr c6
    subst c6
    have H1 : (if a0 = 5 then ((zax.f kj2 a1_0 a1_1 a1_2).bind fun t235 => (if t235 = true then (if a1_0 = 1 then (some true) else (if a0 = 6 then ((zax.f kj2 a1_0 a1_1 a1_2).bind fun t236 => (if t236 = true then (some (a1_0 == 3)) else (some false))) else (some false))) else (if a0 = 6 then ((zax.f kj2 a1_0 a1_1 a1_2).bind fun t237 => (if t237 = true then (some (a1_0 == 3)) else (some false))) else (some false)))) else (if a0 = 6 then ((zax.f kj2 a1_0 a1_1 a1_2).bind fun t238 => (if t238 = true then (some (a1_0 == 3)) else (some false))) else (some false))) = some r := by rw [if_neg (show ¬ (false = true) by decide)] at H; exact H
    clear H
    have H := H1
    clear H1
    by_cases c10 : a0 = 5
    ·rw [if_pos c10] at H
     have c10b0 : (a0 == 5) = true := beq_iff_eq.mpr c10
     have c10b1 : (a0 != 5) = false := bne_eq_false_iff_eq.mpr c10
     clear c10
     replace H := Option.bind_eq_some_iff.mp H
     obtain ⟨t235, A110, H⟩ := H
     replace H : (if t235 = true then (if a1_0 = 1 then (some true) else (if a0 = 6 then ((zax.f kj2 a1_0 a1_1 a1_2).bind fun t236 => (if t236 = true then (some (a1_0 == 3)) else (some false))) else (some false))) else (if a0 = 6 then ((zax.f kj2 a1_0 a1_1 a1_2).bind fun t237 => (if t237 = true then (some (a1_0 == 3)) else (some false))) else (some false))) = some r := H
     have A11 := zae.mk A110
     clear A110
     by_cases c12 : t235 = true
     ·subst c12
      have H1 : (if a1_0 = 1 then (some true) else (if a0 = 6 then ((zax.f kj2 a1_0 a1_1 a1_2).bind fun t236 => (if t236 = true then (some (a1_0 == 3)) else (some false))) else (some false))) = some r := by rw [if_pos rfl] at H; exact H
      clear H
      have H := H1
      clear H1
      by_cases c13 : a1_0 = 1
      ·rw [if_pos c13] at H
       have c13b0 : (a1_0 == 1) = true := beq_iff_eq.mpr c13
       have c13b1 : (a1_0 != 1) = false := bne_eq_false_iff_eq.mpr c13
       clear c13
       obtain rfl := Option.some.inj H
       obtain ⟨d14_0, d14_1, d14_2⟩ := cq3 BK233.out
       obtain ⟨e14_0, e14_1, e14_2⟩ := fq3 BK233.out
       go_wp2_with (first | (go_at_call 37; (with_reducible refine (zax.calls kj2 a1_0 a1_1 a1_2 true _ A11.out).mono ?_); rintro e w15 ⟨rfl, hb⟩; have n0_ := zae.mk (zau (g := gb233) (o := .cells #[.int .i64 a1_0, .int .i64 a1_1, .string a1_2] 38 (0, 0)) (by (with_reducible repeat (first | refine zai ?_ _ | refine zak ?_ | refine zaj ?_ _)); exact BK233.out) hb); have n1_ := zae.mk (zaq (by repeat with_reducible first | exact HB.out | apply zad | apply zaa | apply zac | refine zag ?_ GE233.out) hb); clear BK233; clear HB; have BK233 := n0_; have HB := n1_; clear n0_ n1_; (try clear hb); (try clear hb2); (try clear hk); (try clear hi); obtain ⟨d16_0, d16_1, d16_2⟩ := cq3 BK233.out; obtain ⟨e16_0, e16_1, e16_2⟩ := fq3 BK233.out))
       go_ret
       exact ⟨by first | rfl | (simp [zam, zal] <;> rfl) | (simp [*, zam, zal] <;> rfl), by repeat with_reducible first | exact HB.out | apply zad | apply zaa | apply zac | refine zag ?_ GE233.out⟩
      ·rw [if_neg c13] at H
       have c13b0 : (a1_0 == 1) = false := beq_eq_false_iff_ne.mpr c13
       have c13b1 : (a1_0 != 1) = true := bne_iff_ne.mpr c13
       by_cases c17 : a0 = 6
       ·rw [if_pos c17] at H
        have c17b0 : (a0 == 6) = true := beq_iff_eq.mpr c17
        have c17b1 : (a0 != 6) = false := bne_eq_false_iff_eq.mpr c17
        clear c17
        replace H := Option.bind_eq_some_iff.mp H
        obtain ⟨t236, A180, H⟩ := H
        replace H : (if t236 = true then (some (a1_0 == 3)) else (some false)) = some r := H
        have A18 := zae.mk A180
        clear A180
        by_cases c19 : t236 = true
        ·subst c19
         have H1 : (some (a1_0 == 3)) = some r := by rw [if_pos rfl] at H; exact H
         clear H
         have H := H1
         clear H1
         obtain rfl := Option.some.inj H
         obtain ⟨d20_0, d20_1, d20_2⟩ := cq3 BK233.out
         obtain ⟨e20_0, e20_1, e20_2⟩ := fq3 BK233.out
         go_wp2_with (first | (go_at_call 37; (with_reducible refine (zax.calls kj2 a1_0 a1_1 a1_2 true _ A11.out).mono ?_); rintro e w21 ⟨rfl, hb⟩; have n0_ := zae.mk (zau (g := gb233) (o := .cells #[.int .i64 a1_0, .int .i64 a1_1, .string a1_2] 38 (0, 0)) (by (with_reducible repeat (first | refine zai ?_ _ | refine zak ?_ | refine zaj ?_ _)); exact BK233.out) hb); have n1_ := zae.mk (zaq (by repeat with_reducible first | exact HB.out | apply zad | apply zaa | apply zac | refine zag ?_ GE233.out) hb); clear BK233; clear HB; have BK233 := n0_; have HB := n1_; clear n0_ n1_; (try clear hb); (try clear hb2); (try clear hk); (try clear hi); obtain ⟨d22_0, d22_1, d22_2⟩ := cq3 BK233.out; obtain ⟨e22_0, e22_1, e22_2⟩ := fq3 BK233.out) | (go_at_call 37; (with_reducible refine (zax.calls kj2 a1_0 a1_1 a1_2 true _ A18.out).mono ?_); rintro e w23 ⟨rfl, hb⟩; have n0_ := zae.mk (zau (g := gb233) (o := .cells #[.int .i64 a1_0, .int .i64 a1_1, .string a1_2] 38 (0, 0)) (by (with_reducible repeat (first | refine zai ?_ _ | refine zak ?_ | refine zaj ?_ _)); exact BK233.out) hb); have n1_ := zae.mk (zaq (by repeat with_reducible first | exact HB.out | apply zad | apply zaa | apply zac | refine zag ?_ GE233.out) hb); clear BK233; clear HB; have BK233 := n0_; have HB := n1_; clear n0_ n1_; (try clear hb); (try clear hb2); (try clear hk); (try clear hi); obtain ⟨d24_0, d24_1, d24_2⟩ := cq3 BK233.out; obtain ⟨e24_0, e24_1, e24_2⟩ := fq3 BK233.out))
         go_ret
         exact ⟨by first | rfl | (simp [zam, zal] <;> rfl) | (simp [*, zam, zal] <;> rfl), by repeat with_reducible first | exact HB.out | apply zad | apply zaa | apply zac | refine zag ?_ GE233.out⟩
        ·replace c19 := Bool.eq_false_iff.mpr c19
         subst c19
         have H1 : (some false) = some r := by rw [if_neg (show ¬ (false = true) by decide)] at H; exact H
         clear H
         have H := H1
         clear H1
         obtain rfl := Option.some.inj H
         obtain ⟨d25_0, d25_1, d25_2⟩ := cq3 BK233.out
         obtain ⟨e25_0, e25_1, e25_2⟩ := fq3 BK233.out
         go_wp2_with (first | (go_at_call 37; (with_reducible refine (zax.calls kj2 a1_0 a1_1 a1_2 true _ A11.out).mono ?_); rintro e w26 ⟨rfl, hb⟩; have n0_ := zae.mk (zau (g := gb233) (o := .cells #[.int .i64 a1_0, .int .i64 a1_1, .string a1_2] 38 (0, 0)) (by (with_reducible repeat (first | refine zai ?_ _ | refine zak ?_ | refine zaj ?_ _)); exact BK233.out) hb); have n1_ := zae.mk (zaq (by repeat with_reducible first | exact HB.out | apply zad | apply zaa | apply zac | refine zag ?_ GE233.out) hb); clear BK233; clear HB; have BK233 := n0_; have HB := n1_; clear n0_ n1_; (try clear hb); (try clear hb2); (try clear hk); (try clear hi); obtain ⟨d27_0, d27_1, d27_2⟩ := cq3 BK233.out; obtain ⟨e27_0, e27_1, e27_2⟩ := fq3 BK233.out) | (go_at_call 37; (with_reducible refine (zax.calls kj2 a1_0 a1_1 a1_2 false _ A18.out).mono ?_); rintro e w28 ⟨rfl, hb⟩; have n0_ := zae.mk (zau (g := gb233) (o := .cells #[.int .i64 a1_0, .int .i64 a1_1, .string a1_2] 38 (0, 0)) (by (with_reducible repeat (first | refine zai ?_ _ | refine zak ?_ | refine zaj ?_ _)); exact BK233.out) hb); have n1_ := zae.mk (zaq (by repeat with_reducible first | exact HB.out | apply zad | apply zaa | apply zac | refine zag ?_ GE233.out) hb); clear BK233; clear HB; have BK233 := n0_; have HB := n1_; clear n0_ n1_; (try clear hb); (try clear hb2); (try clear hk); (try clear hi)))
         go_ret
         exact ⟨by first | rfl | (exfalso; have e1 := beq_iff_eq.mp c10b0; first | (have e2 := beq_iff_eq.mp c17b0; omega) | (have e2 := beq_iff_eq.mp c32b0; omega)) | (simp [zam, zal] <;> rfl) | (simp [*, zam, zal] <;> rfl), by repeat with_reducible first | exact HB.out | apply zad | apply zaa | apply zac | refine zag ?_ GE233.out⟩
       ·rw [if_neg c17] at H
        have c17b0 : (a0 == 6) = false := beq_eq_false_iff_ne.mpr c17
        have c17b1 : (a0 != 6) = true := bne_iff_ne.mpr c17
        obtain rfl := Option.some.inj H
        obtain ⟨d29_0, d29_1, d29_2⟩ := cq3 BK233.out
        obtain ⟨e29_0, e29_1, e29_2⟩ := fq3 BK233.out
        go_wp2_with (first | (go_at_call 37; (with_reducible refine (zax.calls kj2 a1_0 a1_1 a1_2 true _ A11.out).mono ?_); rintro e w30 ⟨rfl, hb⟩; have n0_ := zae.mk (zau (g := gb233) (o := .cells #[.int .i64 a1_0, .int .i64 a1_1, .string a1_2] 38 (0, 0)) (by (with_reducible repeat (first | refine zai ?_ _ | refine zak ?_ | refine zaj ?_ _)); exact BK233.out) hb); have n1_ := zae.mk (zaq (by repeat with_reducible first | exact HB.out | apply zad | apply zaa | apply zac | refine zag ?_ GE233.out) hb); clear BK233; clear HB; have BK233 := n0_; have HB := n1_; clear n0_ n1_; (try clear hb); (try clear hb2); (try clear hk); (try clear hi); obtain ⟨d31_0, d31_1, d31_2⟩ := cq3 BK233.out; obtain ⟨e31_0, e31_1, e31_2⟩ := fq3 BK233.out))
        go_ret
        exact ⟨by first | rfl | (simp [zam, zal] <;> rfl) | (simp [*, zam, zal] <;> rfl), by repeat with_reducible first | exact HB.out | apply zad | apply zaa | apply zac | refine zag ?_ GE233.out⟩
     ·replace c12 := Bool.eq_false_iff.mpr c12
      subst c12
      have H1 : (if a0 = 6 then ((zax.f kj2 a1_0 a1_1 a1_2).bind fun t237 => (if t237 = true then (some (a1_0 == 3)) else (some false))) else (some false)) = some r := by rw [if_neg (show ¬ (false = true) by decide)] at H; exact H
      clear H
      have H := H1
      clear H1
      by_cases c32 : a0 = 6
      ·rw [if_pos c32] at H
       have c32b0 : (a0 == 6) = true := beq_iff_eq.mpr c32
       have c32b1 : (a0 != 6) = false := bne_eq_false_iff_eq.mpr c32
       clear c32
       replace H := Option.bind_eq_some_iff.mp H
       obtain ⟨t237, A330, H⟩ := H
       replace H : (if t237 = true then (some (a1_0 == 3)) else (some false)) = some r := H
       have A33 := zae.mk A330
       clear A330
       by_cases c34 : t237 = true
       ·subst c34
        have H1 : (some (a1_0 == 3)) = some r := by rw [if_pos rfl] at H; exact H
        clear H
        have H := H1
        clear H1
        obtain rfl := Option.some.inj H
        obtain ⟨d35_0, d35_1, d35_2⟩ := cq3 BK233.out
        obtain ⟨e35_0, e35_1, e35_2⟩ := fq3 BK233.out
        go_wp2_with (first | (go_at_call 37; (with_reducible refine (zax.calls kj2 a1_0 a1_1 a1_2 false _ A11.out).mono ?_); rintro e w36 ⟨rfl, hb⟩; have n0_ := zae.mk (zau (g := gb233) (o := .cells #[.int .i64 a1_0, .int .i64 a1_1, .string a1_2] 38 (0, 0)) (by (with_reducible repeat (first | refine zai ?_ _ | refine zak ?_ | refine zaj ?_ _)); exact BK233.out) hb); have n1_ := zae.mk (zaq (by repeat with_reducible first | exact HB.out | apply zad | apply zaa | apply zac | refine zag ?_ GE233.out) hb); clear BK233; clear HB; have BK233 := n0_; have HB := n1_; clear n0_ n1_; (try clear hb); (try clear hb2); (try clear hk); (try clear hi); obtain ⟨d37_0, d37_1, d37_2⟩ := cq3 BK233.out; obtain ⟨e37_0, e37_1, e37_2⟩ := fq3 BK233.out) | (go_at_call 37; (with_reducible refine (zax.calls kj2 a1_0 a1_1 a1_2 true _ A33.out).mono ?_); rintro e w38 ⟨rfl, hb⟩; have n0_ := zae.mk (zau (g := gb233) (o := .cells #[.int .i64 a1_0, .int .i64 a1_1, .string a1_2] 38 (0, 0)) (by (with_reducible repeat (first | refine zai ?_ _ | refine zak ?_ | refine zaj ?_ _)); exact BK233.out) hb); have n1_ := zae.mk (zaq (by repeat with_reducible first | exact HB.out | apply zad | apply zaa | apply zac | refine zag ?_ GE233.out) hb); clear BK233; clear HB; have BK233 := n0_; have HB := n1_; clear n0_ n1_; (try clear hb); (try clear hb2); (try clear hk); (try clear hi); obtain ⟨d39_0, d39_1, d39_2⟩ := cq3 BK233.out; obtain ⟨e39_0, e39_1, e39_2⟩ := fq3 BK233.out))
        go_ret
        exact ⟨by first | rfl | (exfalso; have e1 := beq_iff_eq.mp c10b0; first | (have e2 := beq_iff_eq.mp c17b0; omega) | (have e2 := beq_iff_eq.mp c32b0; omega)) | (simp [zam, zal] <;> rfl) | (simp [*, zam, zal] <;> rfl), by repeat with_reducible first | exact HB.out | apply zad | apply zaa | apply zac | refine zag ?_ GE233.out⟩
       ·replace c34 := Bool.eq_false_iff.mpr c34
        subst c34
        have H1 : (some false) = some r := by rw [if_neg (show ¬ (false = true) by decide)] at H; exact H
        clear H
        have H := H1
        clear H1
        obtain rfl := Option.some.inj H
        obtain ⟨d40_0, d40_1, d40_2⟩ := cq3 BK233.out
        obtain ⟨e40_0, e40_1, e40_2⟩ := fq3 BK233.out
        go_wp2_with (first | (go_at_call 37; (with_reducible refine (zax.calls kj2 a1_0 a1_1 a1_2 false _ A11.out).mono ?_); rintro e w41 ⟨rfl, hb⟩; have n0_ := zae.mk (zau (g := gb233) (o := .cells #[.int .i64 a1_0, .int .i64 a1_1, .string a1_2] 38 (0, 0)) (by (with_reducible repeat (first | refine zai ?_ _ | refine zak ?_ | refine zaj ?_ _)); exact BK233.out) hb); have n1_ := zae.mk (zaq (by repeat with_reducible first | exact HB.out | apply zad | apply zaa | apply zac | refine zag ?_ GE233.out) hb); clear BK233; clear HB; have BK233 := n0_; have HB := n1_; clear n0_ n1_; (try clear hb); (try clear hb2); (try clear hk); (try clear hi); obtain ⟨d42_0, d42_1, d42_2⟩ := cq3 BK233.out; obtain ⟨e42_0, e42_1, e42_2⟩ := fq3 BK233.out) | (go_at_call 37; (with_reducible refine (zax.calls kj2 a1_0 a1_1 a1_2 false _ A33.out).mono ?_); rintro e w43 ⟨rfl, hb⟩; have n0_ := zae.mk (zau (g := gb233) (o := .cells #[.int .i64 a1_0, .int .i64 a1_1, .string a1_2] 38 (0, 0)) (by (with_reducible repeat (first | refine zai ?_ _ | refine zak ?_ | refine zaj ?_ _)); exact BK233.out) hb); have n1_ := zae.mk (zaq (by repeat with_reducible first | exact HB.out | apply zad | apply zaa | apply zac | refine zag ?_ GE233.out) hb); clear BK233; clear HB; have BK233 := n0_; have HB := n1_; clear n0_ n1_; (try clear hb); (try clear hb2); (try clear hk); (try clear hi)))
        go_ret
        exact ⟨by first | rfl | (simp [zam, zal] <;> rfl) | (simp [*, zam, zal] <;> rfl), by repeat with_reducible first | exact HB.out | apply zad | apply zaa | apply zac | refine zag ?_ GE233.out⟩
      ·rw [if_neg c32] at H
       have c32b0 : (a0 == 6) = false := beq_eq_false_iff_ne.mpr c32
       have c32b1 : (a0 != 6) = true := bne_iff_ne.mpr c32
       obtain rfl := Option.some.inj H
       obtain ⟨d44_0, d44_1, d44_2⟩ := cq3 BK233.out
       obtain ⟨e44_0, e44_1, e44_2⟩ := fq3 BK233.out
       go_wp2_with (first | (go_at_call 37; (with_reducible refine (zax.calls kj2 a1_0 a1_1 a1_2 false _ A11.out).mono ?_); rintro e w45 ⟨rfl, hb⟩; have n0_ := zae.mk (zau (g := gb233) (o := .cells #[.int .i64 a1_0, .int .i64 a1_1, .string a1_2] 38 (0, 0)) (by (with_reducible repeat (first | refine zai ?_ _ | refine zak ?_ | refine zaj ?_ _)); exact BK233.out) hb); have n1_ := zae.mk (zaq (by repeat with_reducible first | exact HB.out | apply zad | apply zaa | apply zac | refine zag ?_ GE233.out) hb); clear BK233; clear HB; have BK233 := n0_; have HB := n1_; clear n0_ n1_; (try clear hb); (try clear hb2); (try clear hk); (try clear hi)))
       go_ret
       exact ⟨by first | rfl | (simp [zam, zal] <;> rfl) | (simp [*, zam, zal] <;> rfl), by repeat with_reducible first | exact HB.out | apply zad | apply zaa | apply zac | refine zag ?_ GE233.out⟩
    ·rw [if_neg c10] at H
     have c10b0 : (a0 == 5) = false := beq_eq_false_iff_ne.mpr c10
     have c10b1 : (a0 != 5) = true := bne_iff_ne.mpr c10
     by_cases c46 : a0 = 6
     ·rw [if_pos c46] at H
      have c46b0 : (a0 == 6) = true := beq_iff_eq.mpr c46
      have c46b1 : (a0 != 6) = false := bne_eq_false_iff_eq.mpr c46
      clear c46
      replace H := Option.bind_eq_some_iff.mp H
      obtain ⟨t238, A470, H⟩ := H
      replace H : (if t238 = true then (some (a1_0 == 3)) else (some false)) = some r := H
      have A47 := zae.mk A470
      clear A470
      by_cases c48 : t238 = true
      ·subst c48
       have H1 : (some (a1_0 == 3)) = some r := by rw [if_pos rfl] at H; exact H
       clear H
       have H := H1
       clear H1
       obtain rfl := Option.some.inj H
       obtain ⟨d49_0, d49_1, d49_2⟩ := cq3 BK233.out
       obtain ⟨e49_0, e49_1, e49_2⟩ := fq3 BK233.out
       go_wp2_with (first | (go_at_call 37; (with_reducible refine (zax.calls kj2 a1_0 a1_1 a1_2 true _ A47.out).mono ?_); rintro e w50 ⟨rfl, hb⟩; have n0_ := zae.mk (zau (g := gb233) (o := .cells #[.int .i64 a1_0, .int .i64 a1_1, .string a1_2] 38 (0, 0)) (by (with_reducible repeat (first | refine zai ?_ _ | refine zak ?_ | refine zaj ?_ _)); exact BK233.out) hb); have n1_ := zae.mk (zaq (by repeat with_reducible first | exact HB.out | apply zad | apply zaa | apply zac | refine zag ?_ GE233.out) hb); clear BK233; clear HB; have BK233 := n0_; have HB := n1_; clear n0_ n1_; (try clear hb); (try clear hb2); (try clear hk); (try clear hi); obtain ⟨d51_0, d51_1, d51_2⟩ := cq3 BK233.out; obtain ⟨e51_0, e51_1, e51_2⟩ := fq3 BK233.out))
       go_ret
       exact ⟨by first | rfl | (simp [zam, zal] <;> rfl) | (simp [*, zam, zal] <;> rfl), by repeat with_reducible first | exact HB.out | apply zad | apply zaa | apply zac | refine zag ?_ GE233.out⟩
      ·replace c48 := Bool.eq_false_iff.mpr c48
       subst c48
       have H1 : (some false) = some r := by rw [if_neg (show ¬ (false = true) by decide)] at H; exact H
       clear H
       have H := H1
       clear H1
       obtain rfl := Option.some.inj H
       obtain ⟨d52_0, d52_1, d52_2⟩ := cq3 BK233.out
       obtain ⟨e52_0, e52_1, e52_2⟩ := fq3 BK233.out
       go_wp2_with (first | (go_at_call 37; (with_reducible refine (zax.calls kj2 a1_0 a1_1 a1_2 false _ A47.out).mono ?_); rintro e w53 ⟨rfl, hb⟩; have n0_ := zae.mk (zau (g := gb233) (o := .cells #[.int .i64 a1_0, .int .i64 a1_1, .string a1_2] 38 (0, 0)) (by (with_reducible repeat (first | refine zai ?_ _ | refine zak ?_ | refine zaj ?_ _)); exact BK233.out) hb); have n1_ := zae.mk (zaq (by repeat with_reducible first | exact HB.out | apply zad | apply zaa | apply zac | refine zag ?_ GE233.out) hb); clear BK233; clear HB; have BK233 := n0_; have HB := n1_; clear n0_ n1_; (try clear hb); (try clear hb2); (try clear hk); (try clear hi)))
       go_ret
       exact ⟨by first | rfl | (simp [zam, zal] <;> rfl) | (simp [*, zam, zal] <;> rfl), by repeat with_reducible first | exact HB.out | apply zad | apply zaa | apply zac | refine zag ?_ GE233.out⟩
     ·rw [if_neg c46] at H
      have c46b0 : (a0 == 6) = false := beq_eq_false_iff_ne.mpr c46
      have c46b1 : (a0 != 6) = true := bne_iff_ne.mpr c46
      obtain rfl := Option.some.inj H
      go_wp2
      go_ret
      exact ⟨by first | rfl | (simp [zam, zal] <;> rfl) | (simp [*, zam, zal] <;> rfl), by repeat with_reducible first | exact HB.out | apply zad | apply zaa | apply zac | refine zag ?_ GE233.out⟩
end Go.Proofs.YtikmmigfdchcpaaDoor.PP
