/-
  Proved: a part of the proof of the claim's statement (text Q15 of it).
  Conditions: none of ours.
-/
import Derived.Test.YtikmmigfdchcpaaDoorPeQ0
import Derived.Test.YtikmmigfdchcpaaDoorPeQ14
namespace Go.Proofs.YtikmmigfdchcpaaDoor.PP
open Go.RowKit Go.Proofs.YtikmmigfdchcpaaDoorW.PrintWords Go.Proofs.YtikmmigfdchcpaaDoorW.PrintLast Go.Proofs.YtikmmigfdchcpaaDoorW.PrintMore
set_option linter.unusedVariables false
set_option linter.unusedSimpArgs false
def zbu.f (a0_0 : Int) (a0_1 : Int) (a0_2 : Int) (a0_3 : ByteArray) (a0_4 : Int) (a0_5 : Int) (a0_6 : Int) (a0_7 : Int) (a0_8 : ByteArray) (a0_9 : Int) (l0_10 : List (S38)) (l0_11 : List (S38)) (a0_12 : Bool) (a0_13 : ByteArray) : Option (Bool) := if (a0_13.size : Int) ≤ 100 then ((strings_Contains.f a0_13 (⟨#[10]⟩ : ByteArray)).bind fun t106 => (if t106 = true then (some false) else (if a0_12 = true then (some true) else (some (a0_13.toList == ([] : List UInt8)))))) else (some false)
set_option maxHeartbeats 8000000 in
set_option maxRecDepth 100000 in
theorem zbu.calls (a0_0 : Int) (a0_1 : Int) (a0_2 : Int) (a0_3 : ByteArray) (a0_4 : Int) (a0_5 : Int) (a0_6 : Int) (a0_7 : Int) (a0_8 : ByteArray) (a0_9 : Int) (A0_10 : Option Addr) (c0_10 : Nat) (l0_10 : List (S38)) (A0_11 : Option Addr) (c0_11 : Nat) (l0_11 : List (S38)) (a0_12 : Bool) (a0_13 : ByteArray) (r : Bool) (w : World) (hr0_10 : Kd.C k38 w A0_10 l0_10.length l0_10) (hc0_10 : l0_10.length ≤ c0_10) (hr0_11 : Kd.C k38 w A0_11 l0_11.length l0_11) (hc0_11 : l0_11.length ≤ c0_11) (h : zbu.f a0_0 a0_1 a0_2 a0_3 a0_4 a0_5 a0_6 a0_7 a0_8 a0_9 l0_10 l0_11 a0_12 a0_13 = some r) :
  Calls Tryd.prog 41 #[.agg #[.int .i64 a0_0, .int .i64 a0_1, .int .i64 a0_2, .string a0_3, .int .i64 a0_4, .int .i64 a0_5, .int .i64 a0_6, .int .i64 a0_7, .string a0_8, .int .i64 a0_9, .slice A0_10 l0_10.length c0_10, .slice A0_11 l0_11.length c0_11, .bool a0_12, .string a0_13]] w fun e w' => e = .returned (.bool r) ∧ Below w.heap.size w w' := by
 have hu47 := Tryd.underlying47
 have HR0_10 := zab.mk hr0_10
 have HC0_10 := zab.mk hc0_10
 clear hr0_10 hc0_10
 have HR0_11 := zab.mk hr0_11
 have HC0_11 := zab.mk hc0_11
 clear hr0_11 hc0_11
 have HB := zab.mk (Below.refl w.heap.size w)
 have H : (if (a0_13.size : Int) ≤ 100 then ((strings_Contains.f a0_13 (⟨#[10]⟩ : ByteArray)).bind fun t106 => (if t106 = true then (some false) else (if a0_12 = true then (some true) else (some (a0_13.toList == ([] : List UInt8)))))) else (some false)) = some r := h
 clear h
 by_cases c2 : (a0_13.size : Int) ≤ 100
 ·rw [if_pos c2] at H
  have c2b0 : decide ((a0_13.size : Int) ≤ 100) = true := decide_eq_true c2
  have c2b1 : decide (a0_13.size ≤ 100) = true := decide_eq_true (by omega)
  clear c2
  replace H := Option.bind_eq_some_iff.mp H
  obtain ⟨t106, A30, H⟩ := H
  replace H : (if t106 = true then (some false) else (if a0_12 = true then (some true) else (some (a0_13.toList == ([] : List UInt8))))) = some r := H
  have A3 := zab.mk A30
  clear A30
  by_cases c4 : t106 = true
  ·subst c4
   have H1 : (some false) = some r := by rw [if_pos rfl] at H; exact H
   clear H
   have H := H1
   clear H1
   obtain rfl := Option.some.inj H
   go_enter Tryd.func41, Tryd.ntmps41
   go_wp2_with (first | ((with_reducible refine za2 (N := 1) rfl ?_); refine zay ?hg (N := 1) ?hd (cs := #[.int .i64 a0_0, .int .i64 a0_1, .int .i64 a0_2, .string a0_3, .int .i64 a0_4, .int .i64 a0_5, .int .i64 a0_6, .int .i64 a0_7, .string a0_8, .int .i64 a0_9, .slice A0_10 l0_10.length c0_10, .slice A0_11 l0_11.length c0_11, .bool a0_12, .string a0_13]) (t := 47) ?hr ?_; (case hd => rfl); (case hg => rfl); (case hr => first | (go_simp; done) | (go_simp; rfl)); intro gb105 hg w5 hbox hb; have n0_ := zab.mk (zal (by repeat with_reducible first | exact HB.out | apply zac | apply zaa | apply zad) hb); have n1_ := zab.mk (hbox); have n2_ := zab.mk ((by rw [hg]; exact (zaq (by repeat with_reducible first | exact HB.out | apply zac | apply zaa | apply zad)) : w.heap.size ≤ gb105)); have n3_ := n2_; clear HB; have HB := n0_; have BK105 := n1_; have GW105 := n2_; have GE105 := n3_; clear n0_ n1_ n2_ n3_; clear hb hbox hg; obtain ⟨d6_0, d6_1, d6_2, d6_3, d6_4, d6_5, d6_6, d6_7, d6_8, d6_9, d6_10, d6_11, d6_12, d6_13⟩ := cq14 BK105.out; obtain ⟨e6_0, e6_1, e6_2, e6_3, e6_4, e6_5, e6_6, e6_7, e6_8, e6_9, e6_10, e6_11, e6_12, e6_13⟩ := fq14 BK105.out) | (go_at_call 50; (with_reducible refine (strings_Contains.calls a0_13 (⟨#[10]⟩ : ByteArray) true _ A3.out).mono ?_); rintro e w7 ⟨rfl, hb⟩; have n0_ := zab.mk (zaw (g := gb105) (o := .cells #[.int .i64 a0_0, .int .i64 a0_1, .int .i64 a0_2, .string a0_3, .int .i64 a0_4, .int .i64 a0_5, .int .i64 a0_6, .int .i64 a0_7, .string a0_8, .int .i64 a0_9, .slice A0_10 l0_10.length c0_10, .slice A0_11 l0_11.length c0_11, .bool a0_12, .string a0_13] 47 (0, 0)) (by (with_reducible repeat (first | refine zaj ?_ _ | refine zam ?_ | refine zak ?_ _)); exact BK105.out) hb); have n1_ := zab.mk (zal (by repeat with_reducible first | exact HB.out | apply zac | apply zaa | apply zad | refine zag ?_ GE105.out) hb); clear BK105; clear HB; have BK105 := n0_; have HB := n1_; clear n0_ n1_; (try clear hb); (try clear hb2); (try clear hk); (try clear hi)))
   go_ret
   exact ⟨by first | rfl | (simp [zao, zan] <;> rfl) | (simp [*, zao, zan] <;> rfl), by repeat with_reducible first | exact HB.out | apply zac | apply zaa | apply zad | refine zag ?_ GE105.out⟩
  ·replace c4 := Bool.eq_false_iff.mpr c4
   subst c4
   have H1 : (if a0_12 = true then (some true) else (some (a0_13.toList == ([] : List UInt8)))) = some r := by rw [if_neg (show ¬ (false = true) by decide)] at H; exact H
   clear H
   have H := H1
   clear H1
   by_cases c8 : a0_12 = true
   ·subst c8
    have H1 : (some true) = some r := by rw [if_pos rfl] at H; exact H
    clear H
    have H := H1
    clear H1
    obtain rfl := Option.some.inj H
    go_enter Tryd.func41, Tryd.ntmps41
    go_wp2_with (first | ((with_reducible refine za2 (N := 1) rfl ?_); refine zay ?hg (N := 1) ?hd (cs := #[.int .i64 a0_0, .int .i64 a0_1, .int .i64 a0_2, .string a0_3, .int .i64 a0_4, .int .i64 a0_5, .int .i64 a0_6, .int .i64 a0_7, .string a0_8, .int .i64 a0_9, .slice A0_10 l0_10.length c0_10, .slice A0_11 l0_11.length c0_11, .bool true, .string a0_13]) (t := 47) ?hr ?_; (case hd => rfl); (case hg => rfl); (case hr => first | (go_simp; done) | (go_simp; rfl)); intro gb105 hg w9 hbox hb; have n0_ := zab.mk (zal (by repeat with_reducible first | exact HB.out | apply zac | apply zaa | apply zad) hb); have n1_ := zab.mk (hbox); have n2_ := zab.mk ((by rw [hg]; exact (zaq (by repeat with_reducible first | exact HB.out | apply zac | apply zaa | apply zad)) : w.heap.size ≤ gb105)); have n3_ := n2_; clear HB; have HB := n0_; have BK105 := n1_; have GW105 := n2_; have GE105 := n3_; clear n0_ n1_ n2_ n3_; clear hb hbox hg; obtain ⟨d10_0, d10_1, d10_2, d10_3, d10_4, d10_5, d10_6, d10_7, d10_8, d10_9, d10_10, d10_11, d10_12, d10_13⟩ := cq14 BK105.out; obtain ⟨e10_0, e10_1, e10_2, e10_3, e10_4, e10_5, e10_6, e10_7, e10_8, e10_9, e10_10, e10_11, e10_12, e10_13⟩ := fq14 BK105.out) | (go_at_call 50; (with_reducible refine (strings_Contains.calls a0_13 (⟨#[10]⟩ : ByteArray) false _ A3.out).mono ?_); rintro e w11 ⟨rfl, hb⟩; have n0_ := zab.mk (zaw (g := gb105) (o := .cells #[.int .i64 a0_0, .int .i64 a0_1, .int .i64 a0_2, .string a0_3, .int .i64 a0_4, .int .i64 a0_5, .int .i64 a0_6, .int .i64 a0_7, .string a0_8, .int .i64 a0_9, .slice A0_10 l0_10.length c0_10, .slice A0_11 l0_11.length c0_11, .bool true, .string a0_13] 47 (0, 0)) (by (with_reducible repeat (first | refine zaj ?_ _ | refine zam ?_ | refine zak ?_ _)); exact BK105.out) hb); have n1_ := zab.mk (zal (by repeat with_reducible first | exact HB.out | apply zac | apply zaa | apply zad | refine zag ?_ GE105.out) hb); clear BK105; clear HB; have BK105 := n0_; have HB := n1_; clear n0_ n1_; (try clear hb); (try clear hb2); (try clear hk); (try clear hi); obtain ⟨d12_0, d12_1, d12_2, d12_3, d12_4, d12_5, d12_6, d12_7, d12_8, d12_9, d12_10, d12_11, d12_12, d12_13⟩ := cq14 BK105.out; obtain ⟨e12_0, e12_1, e12_2, e12_3, e12_4, e12_5, e12_6, e12_7, e12_8, e12_9, e12_10, e12_11, e12_12, e12_13⟩ := fq14 BK105.out))
    go_ret
    exact ⟨by first | rfl | (simp [zao, zan] <;> rfl) | (simp [*, zao, zan] <;> rfl), by repeat with_reducible first | exact HB.out | apply zac | apply zaa | apply zad | refine zag ?_ GE105.out⟩
   ·replace c8 := Bool.eq_false_iff.mpr c8
    subst c8
    have H1 : (some (a0_13.toList == ([] : List UInt8))) = some r := by rw [if_neg (show ¬ (false = true) by decide)] at H; exact H
    clear H
    have H := H1
    clear H1
    obtain rfl := Option.some.inj H
    go_enter Tryd.func41, Tryd.ntmps41
    go_wp2_with (first | ((with_reducible refine za2 (N := 1) rfl ?_); refine zay ?hg (N := 1) ?hd (cs := #[.int .i64 a0_0, .int .i64 a0_1, .int .i64 a0_2, .string a0_3, .int .i64 a0_4, .int .i64 a0_5, .int .i64 a0_6, .int .i64 a0_7, .string a0_8, .int .i64 a0_9, .slice A0_10 l0_10.length c0_10, .slice A0_11 l0_11.length c0_11, .bool false, .string a0_13]) (t := 47) ?hr ?_; (case hd => rfl); (case hg => rfl); (case hr => first | (go_simp; done) | (go_simp; rfl)); intro gb105 hg w13 hbox hb; have n0_ := zab.mk (zal (by repeat with_reducible first | exact HB.out | apply zac | apply zaa | apply zad) hb); have n1_ := zab.mk (hbox); have n2_ := zab.mk ((by rw [hg]; exact (zaq (by repeat with_reducible first | exact HB.out | apply zac | apply zaa | apply zad)) : w.heap.size ≤ gb105)); have n3_ := n2_; clear HB; have HB := n0_; have BK105 := n1_; have GW105 := n2_; have GE105 := n3_; clear n0_ n1_ n2_ n3_; clear hb hbox hg; obtain ⟨d14_0, d14_1, d14_2, d14_3, d14_4, d14_5, d14_6, d14_7, d14_8, d14_9, d14_10, d14_11, d14_12, d14_13⟩ := cq14 BK105.out; obtain ⟨e14_0, e14_1, e14_2, e14_3, e14_4, e14_5, e14_6, e14_7, e14_8, e14_9, e14_10, e14_11, e14_12, e14_13⟩ := fq14 BK105.out) | (go_at_call 50; (with_reducible refine (strings_Contains.calls a0_13 (⟨#[10]⟩ : ByteArray) false _ A3.out).mono ?_); rintro e w15 ⟨rfl, hb⟩; have n0_ := zab.mk (zaw (g := gb105) (o := .cells #[.int .i64 a0_0, .int .i64 a0_1, .int .i64 a0_2, .string a0_3, .int .i64 a0_4, .int .i64 a0_5, .int .i64 a0_6, .int .i64 a0_7, .string a0_8, .int .i64 a0_9, .slice A0_10 l0_10.length c0_10, .slice A0_11 l0_11.length c0_11, .bool false, .string a0_13] 47 (0, 0)) (by (with_reducible repeat (first | refine zaj ?_ _ | refine zam ?_ | refine zak ?_ _)); exact BK105.out) hb); have n1_ := zab.mk (zal (by repeat with_reducible first | exact HB.out | apply zac | apply zaa | apply zad | refine zag ?_ GE105.out) hb); clear BK105; clear HB; have BK105 := n0_; have HB := n1_; clear n0_ n1_; (try clear hb); (try clear hb2); (try clear hk); (try clear hi); obtain ⟨d16_0, d16_1, d16_2, d16_3, d16_4, d16_5, d16_6, d16_7, d16_8, d16_9, d16_10, d16_11, d16_12, d16_13⟩ := cq14 BK105.out; obtain ⟨e16_0, e16_1, e16_2, e16_3, e16_4, e16_5, e16_6, e16_7, e16_8, e16_9, e16_10, e16_11, e16_12, e16_13⟩ := fq14 BK105.out))
    go_ret
    exact ⟨by first | rfl | (simp [zao, zan] <;> rfl) | (simp [*, zao, zan] <;> rfl), by repeat with_reducible first | exact HB.out | apply zac | apply zaa | apply zad | refine zag ?_ GE105.out⟩
 ·rw [if_neg c2] at H
  have c2b0 : decide ((a0_13.size : Int) ≤ 100) = false := decide_eq_false c2
  have c2b1 : decide (a0_13.size ≤ 100) = false := decide_eq_false (by omega)
  clear c2
  obtain rfl := Option.some.inj H
  go_enter Tryd.func41, Tryd.ntmps41
  go_wp2_with (first | ((with_reducible refine za2 (N := 1) rfl ?_); refine zay ?hg (N := 1) ?hd (cs := #[.int .i64 a0_0, .int .i64 a0_1, .int .i64 a0_2, .string a0_3, .int .i64 a0_4, .int .i64 a0_5, .int .i64 a0_6, .int .i64 a0_7, .string a0_8, .int .i64 a0_9, .slice A0_10 l0_10.length c0_10, .slice A0_11 l0_11.length c0_11, .bool a0_12, .string a0_13]) (t := 47) ?hr ?_; (case hd => rfl); (case hg => rfl); (case hr => first | (go_simp; done) | (go_simp; rfl)); intro gb105 hg w17 hbox hb; have n0_ := zab.mk (zal (by repeat with_reducible first | exact HB.out | apply zac | apply zaa | apply zad) hb); have n1_ := zab.mk (hbox); have n2_ := zab.mk ((by rw [hg]; exact (zaq (by repeat with_reducible first | exact HB.out | apply zac | apply zaa | apply zad)) : w.heap.size ≤ gb105)); have n3_ := n2_; clear HB; have HB := n0_; have BK105 := n1_; have GW105 := n2_; have GE105 := n3_; clear n0_ n1_ n2_ n3_; clear hb hbox hg; obtain ⟨d18_0, d18_1, d18_2, d18_3, d18_4, d18_5, d18_6, d18_7, d18_8, d18_9, d18_10, d18_11, d18_12, d18_13⟩ := cq14 BK105.out; obtain ⟨e18_0, e18_1, e18_2, e18_3, e18_4, e18_5, e18_6, e18_7, e18_8, e18_9, e18_10, e18_11, e18_12, e18_13⟩ := fq14 BK105.out))
  go_ret
  exact ⟨by first | rfl | (simp [zao, zan] <;> rfl) | (simp [*, zao, zan] <;> rfl), by repeat with_reducible first | exact HB.out | apply zac | apply zaa | apply zad | refine zag ?_ GE105.out⟩
end Go.Proofs.YtikmmigfdchcpaaDoor.PP
