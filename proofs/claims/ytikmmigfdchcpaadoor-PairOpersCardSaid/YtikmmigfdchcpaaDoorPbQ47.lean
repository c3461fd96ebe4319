/-
  Proved: a part of the proof of the claim's statement (text Q47 of it).
  Conditions: none of ours.
-/
import Derived.Test.YtikmmigfdchcpaaDoorPbQ0
import Derived.Test.YtikmmigfdchcpaaDoorPbQ44
import Derived.Test.YtikmmigfdchcpaaDoorPbQ45
import Derived.Test.YtikmmigfdchcpaaDoorPbQ46
namespace Go.Proofs.YtikmmigfdchcpaaDoor.PP
open Go.RowKit Go.Proofs.YtikmmigfdchcpaaDoorW.PrintWords Go.Proofs.YtikmmigfdchcpaaDoorW.PrintLast Go.Proofs.YtikmmigfdchcpaaDoorW.PrintMore
set_option linter.unusedVariables false
set_option linter.unusedSimpArgs false
/-! ### zar: function 21 -/
mutual
def zar.j0 : Nat → List (S47) → Int → Bool → Int → Int → Int → ByteArray → Int → Int → Int → Int → ByteArray → Int → List (S38) → List (S38) → Bool → ByteArray → Option (Int)
 | 0, _, _, _, _, _, _, _, _, _, _, _, _, _, _, _, _, _ => none
 | k + 1, x0, x1, x32, x282000, x282001, x282002, x282003, x282004, x282005, x282006, x282007, x282008, x282009, x282010, x282011, x282012, x282013 => if x32 = true then (some 4) else ((zbj.f k x0 x1).bind fun t284 => (if t284 ≥ 0 then (if 0 ≤ t284 then (if t284 < (x0.length : Int) then (zar.j1 k x0 t284 (((zah x0 t284).f2) == 1) x282000 x282001 x282002 x282003 x282004 x282005 x282006 x282007 x282008 x282009 x282010 x282011 x282012 x282013) else (none)) else (none)) else (zar.j1 k x0 t284 false x282000 x282001 x282002 x282003 x282004 x282005 x282006 x282007 x282008 x282009 x282010 x282011 x282012 x282013)))
def zar.j1 : Nat → List (S47) → Int → Bool → Int → Int → Int → ByteArray → Int → Int → Int → Int → ByteArray → Int → List (S38) → List (S38) → Bool → ByteArray → Option (Int)
 | 0, _, _, _, _, _, _, _, _, _, _, _, _, _, _, _, _, _ => none
 | k + 1, x0, x6, x7, x282000, x282001, x282002, x282003, x282004, x282005, x282006, x282007, x282008, x282009, x282010, x282011, x282012, x282013 => if x6 ≥ 0 then (if 0 ≤ x6 then (if x6 < (x0.length : Int) then (zar.j2 k x0 x6 x7 (((zah x0 x6).f2) == 4) x282000 x282001 x282002 x282003 x282004 x282005 x282006 x282007 x282008 x282009 x282010 x282011 x282012 x282013) else (none)) else (none)) else (zar.j2 k x0 x6 x7 false x282000 x282001 x282002 x282003 x282004 x282005 x282006 x282007 x282008 x282009 x282010 x282011 x282012 x282013)
def zar.j2 : Nat → List (S47) → Int → Bool → Bool → Int → Int → Int → ByteArray → Int → Int → Int → Int → ByteArray → Int → List (S38) → List (S38) → Bool → ByteArray → Option (Int)
 | 0, _, _, _, _, _, _, _, _, _, _, _, _, _, _, _, _, _, _ => none
 | k + 1, x0, x6, x7, x8, x282000, x282001, x282002, x282003, x282004, x282005, x282006, x282007, x282008, x282009, x282010, x282011, x282012, x282013 => if x282004 = 1 then (if x7 = true then (some 4) else (if x8 = true then (some 4) else (some 0))) else (if x7 = true then (if x282004 = 2 then (if 0 ≤ x6 then (if x6 < (x0.length : Int) then ((zat.f k ((zah x0 x6).f3) ((zah x0 x6).f5) x282011).bind fun bt289 => (if bt289.2 = true then (some 0) else (some 4))) else (none)) else (none)) else (some 0)) else (some 4))
end
def zar.f (k : Nat) (l0 : List (S47)) (a1 : Int) : Option (Int) := if a1 ≥ 4096 then (some 5) else (if 0 ≤ a1 then (if a1 < (l0.length : Int) then ((zao.f k ((zah l0 a1).f0) ((zah l0 a1).f1.f0) ((zah l0 a1).f1.f1) ((zah l0 a1).f1.f2) ((zah l0 a1).f2) ((zah l0 a1).f3) ((zah l0 a1).f4.f0) ((zah l0 a1).f4.f1) ((zah l0 a1).f4.f2) ((zah l0 a1).f5) ((zah l0 a1).f6) ((zah l0 a1).f7) ((zah l0 a1).f8) ((zah l0 a1).f9)).bind fun t282 => (if t282 = true then (if a1 > 0 then (if 0 ≤ (wrap64 (a1 - 1)) then (if (wrap64 (a1 - 1)) < (l0.length : Int) then (zar.j0 k l0 a1 (decide (((zah l0 a1).f0) < ((zah l0 (wrap64 (a1 - 1))).f0))) ((zah l0 a1).f0) ((zah l0 a1).f1.f0) ((zah l0 a1).f1.f1) ((zah l0 a1).f1.f2) ((zah l0 a1).f2) ((zah l0 a1).f3) ((zah l0 a1).f4.f0) ((zah l0 a1).f4.f1) ((zah l0 a1).f4.f2) ((zah l0 a1).f5) ((zah l0 a1).f6) ((zah l0 a1).f7) ((zah l0 a1).f8) ((zah l0 a1).f9)) else (none)) else (none)) else (zar.j0 k l0 a1 false ((zah l0 a1).f0) ((zah l0 a1).f1.f0) ((zah l0 a1).f1.f1) ((zah l0 a1).f1.f2) ((zah l0 a1).f2) ((zah l0 a1).f3) ((zah l0 a1).f4.f0) ((zah l0 a1).f4.f1) ((zah l0 a1).f4.f2) ((zah l0 a1).f5) ((zah l0 a1).f6) ((zah l0 a1).f7) ((zah l0 a1).f8) ((zah l0 a1).f9))) else (some 2))) else (none)) else (none))
def zar.T6 : Bool × List (List Nat × List Nat) := (true, [([], []), ([0], [0]), ([1], [1]), ([2], [2]), ([3, 2], [2, 3]), ([2], [2]), ([2], [2]), ([6, 2], [2, 6]), ([5, 7, 2], [2, 5, 7]), ([8, 2], [2, 8]), ([9, 2], [2, 9]), ([4, 10, 2], [2, 4, 10]), ([2, 11], [2, 11])])
def zar.B6 : List Nat := [0, 1, 3, 7, 15, 7, 7, 71, 231, 487, 999, 2047, 4095]
theorem zar.tab6 : rtab .any (opsOf Tryd.f21 6) = zar.T6 := by kernel_rfl
theorem zar.bits6 : waitsOk zar.T6.2 zar.B6 = true := by kernel_rfl
def zar.T18 : Bool × List (List Nat × List Nat) := (true, [([], []), ([], []), ([0, 1], [0, 1]), ([2], [2]), ([3], [3]), ([], []), ([], []), ([5, 6], [5, 6]), ([7], [7]), ([8], [8]), ([], []), ([10], [10]), ([4, 9, 11], [4, 9, 11]), ([12], [12]), ([13], [13]), ([13], [13]), ([14, 12, 0, 1, 2, 3, 4, 5, 6, 7, 8, 9, 10, 11, 12, 13, 14], [14]), ([15, 16, 0, 1, 2, 3, 4, 5, 6, 7, 8, 9, 10, 11, 12, 13, 14, 15, 16], [15])])
def zar.B18 : List Nat := [0, 0, 3, 7, 15, 0, 0, 96, 224, 480, 0, 1024, 4095, 8191, 16383, 16383, 32767, 131071]
theorem zar.tab18 : rtab .any (opsOf Tryd.f21 18) = zar.T18 := by kernel_rfl
theorem zar.bits18 : waitsOk zar.T18.2 zar.B18 = true := by kernel_rfl
set_option maxHeartbeats 8000000 in
set_option maxRecDepth 100000 in
theorem zar.calls (k : Nat) (A0 : Option Addr) (c0 : Nat) (l0 : List (S47)) (a1 : Int) (r : Int) (w : World) (hr0 : Kd.C k47 w A0 l0.length l0) (hc0 : l0.length ≤ c0) (h : zar.f k l0 a1 = some r) :
  Calls Tryd.prog 21 #[.slice A0 l0.length c0, .int .i64 a1] w fun e w' => e = .returned (.int .i64 r) ∧ Below w.heap.size w w' := by
 have hu47 := Tryd.underlying47
 have HR0 := zae.mk hr0
 have HC0 := zae.mk hc0
 clear hr0 hc0
 have HB := zae.mk (Below.refl w.heap.size w)
 have H : (if a1 ≥ 4096 then (some 5) else (if 0 ≤ a1 then (if a1 < (l0.length : Int) then ((zao.f k ((zah l0 a1).f0) ((zah l0 a1).f1.f0) ((zah l0 a1).f1.f1) ((zah l0 a1).f1.f2) ((zah l0 a1).f2) ((zah l0 a1).f3) ((zah l0 a1).f4.f0) ((zah l0 a1).f4.f1) ((zah l0 a1).f4.f2) ((zah l0 a1).f5) ((zah l0 a1).f6) ((zah l0 a1).f7) ((zah l0 a1).f8) ((zah l0 a1).f9)).bind fun t282 => (if t282 = true then (if a1 > 0 then (if 0 ≤ (wrap64 (a1 - 1)) then (if (wrap64 (a1 - 1)) < (l0.length : Int) then (zar.j0 k l0 a1 (decide (((zah l0 a1).f0) < ((zah l0 (wrap64 (a1 - 1))).f0))) ((zah l0 a1).f0) ((zah l0 a1).f1.f0) ((zah l0 a1).f1.f1) ((zah l0 a1).f1.f2) ((zah l0 a1).f2) ((zah l0 a1).f3) ((zah l0 a1).f4.f0) ((zah l0 a1).f4.f1) ((zah l0 a1).f4.f2) ((zah l0 a1).f5) ((zah l0 a1).f6) ((zah l0 a1).f7) ((zah l0 a1).f8) ((zah l0 a1).f9)) else (none)) else (none)) else (zar.j0 k l0 a1 false ((zah l0 a1).f0) ((zah l0 a1).f1.f0) ((zah l0 a1).f1.f1) ((zah l0 a1).f1.f2) ((zah l0 a1).f2) ((zah l0 a1).f3) ((zah l0 a1).f4.f0) ((zah l0 a1).f4.f1) ((zah l0 a1).f4.f2) ((zah l0 a1).f5) ((zah l0 a1).f6) ((zah l0 a1).f7) ((zah l0 a1).f8) ((zah l0 a1).f9))) else (some 2))) else (none)) else (none))) = some r := h
 clear h
 by_cases c3 : a1 ≥ 4096
 ·rw [if_pos c3] at H
  have c3b0 : decide (4096 ≤ a1) = true := decide_eq_true c3
  clear c3
  obtain rfl := Option.some.inj H
  go_enter Tryd.func21, Tryd.ntmps21
  go_wp2
  go_ret
  exact ⟨by first | rfl | (simp [zam, zal] <;> rfl) | (simp [*, zam, zal] <;> rfl), by repeat with_reducible first | exact HB.out | apply zad | apply zaa | apply zac⟩
 ·rw [if_neg c3] at H
  have c3b0 : decide (4096 ≤ a1) = false := decide_eq_false c3
  clear c3
  by_cases c4 : 0 ≤ a1
  ·rw [if_pos c4] at H
   have c4b0 : decide (0 ≤ a1) = true := decide_eq_true c4
   clear c4
   by_cases c5 : a1 < (l0.length : Int)
   ·rw [if_pos c5] at H
    have c5b0 : decide (a1 < (l0.length : Int)) = true := decide_eq_true c5
    clear c5
    replace H := Option.bind_eq_some_iff.mp H
    obtain ⟨t282, A60, H⟩ := H
    replace H : (if t282 = true then (if a1 > 0 then (if 0 ≤ (wrap64 (a1 - 1)) then (if (wrap64 (a1 - 1)) < (l0.length : Int) then (zar.j0 k l0 a1 (decide (((zah l0 a1).f0) < ((zah l0 (wrap64 (a1 - 1))).f0))) ((zah l0 a1).f0) ((zah l0 a1).f1.f0) ((zah l0 a1).f1.f1) ((zah l0 a1).f1.f2) ((zah l0 a1).f2) ((zah l0 a1).f3) ((zah l0 a1).f4.f0) ((zah l0 a1).f4.f1) ((zah l0 a1).f4.f2) ((zah l0 a1).f5) ((zah l0 a1).f6) ((zah l0 a1).f7) ((zah l0 a1).f8) ((zah l0 a1).f9)) else (none)) else (none)) else (zar.j0 k l0 a1 false ((zah l0 a1).f0) ((zah l0 a1).f1.f0) ((zah l0 a1).f1.f1) ((zah l0 a1).f1.f2) ((zah l0 a1).f2) ((zah l0 a1).f3) ((zah l0 a1).f4.f0) ((zah l0 a1).f4.f1) ((zah l0 a1).f4.f2) ((zah l0 a1).f5) ((zah l0 a1).f6) ((zah l0 a1).f7) ((zah l0 a1).f8) ((zah l0 a1).f9))) else (some 2)) = some r := H
    have A6 := zae.mk A60
    clear A60
    by_cases c7 : t282 = true
    ·subst c7
     have H1 : (if a1 > 0 then (if 0 ≤ (wrap64 (a1 - 1)) then (if (wrap64 (a1 - 1)) < (l0.length : Int) then (zar.j0 k l0 a1 (decide (((zah l0 a1).f0) < ((zah l0 (wrap64 (a1 - 1))).f0))) ((zah l0 a1).f0) ((zah l0 a1).f1.f0) ((zah l0 a1).f1.f1) ((zah l0 a1).f1.f2) ((zah l0 a1).f2) ((zah l0 a1).f3) ((zah l0 a1).f4.f0) ((zah l0 a1).f4.f1) ((zah l0 a1).f4.f2) ((zah l0 a1).f5) ((zah l0 a1).f6) ((zah l0 a1).f7) ((zah l0 a1).f8) ((zah l0 a1).f9)) else (none)) else (none)) else (zar.j0 k l0 a1 false ((zah l0 a1).f0) ((zah l0 a1).f1.f0) ((zah l0 a1).f1.f1) ((zah l0 a1).f1.f2) ((zah l0 a1).f2) ((zah l0 a1).f3) ((zah l0 a1).f4.f0) ((zah l0 a1).f4.f1) ((zah l0 a1).f4.f2) ((zah l0 a1).f5) ((zah l0 a1).f6) ((zah l0 a1).f7) ((zah l0 a1).f8) ((zah l0 a1).f9))) = some r := by rw [if_pos rfl] at H; exact H
     clear H
     have H := H1
     clear H1
     have HC8 := zae.mk H
     clear H
     have p280 : 0 ≤ (a1 : Int) := of_decide_eq_true (by first | (with_reducible assumption) | assumption)
     have q280 : a1 < (l0.length : Int) := of_decide_eq_true (by first | (with_reducible assumption) | assumption)
     obtain ⟨ad280, A280_10, c280_10, A280_11, c280_11, e280, hx280_0, hx280_1, hx280_2, hx280_3, hx280_4, hx280_5, hx280_6, hx280_7, hx280_8, hx280_9, hx280_10, hx280_11, hx280_12, hx280_13, hl280_10, hi280_10, hl280_11, hi280_11⟩ := zcr HR0.out a1 p280 q280
     cases e280
     have HR280_10 := zae.mk hi280_10
     have HC280_10 := zae.mk hl280_10
     clear hi280_10 hl280_10
     have HR280_11 := zae.mk hi280_11
     have HC280_11 := zae.mk hl280_11
     clear hi280_11 hl280_11
     replace p280 := eq_true p280
     replace q280 := eq_true q280
     go_enter Tryd.func21, Tryd.ntmps21
     go_upto_region 6 with (first | ((with_reducible refine za8 (N := 5) rfl ?_); refine za7 ?hg (N := 5) ?hd (cs := #[.int .i64 0, .int .i64 0, .int .i64 0, .string (⟨#[]⟩ : ByteArray), .int .i64 0, .int .i64 0, .int .i64 0, .int .i64 0, .string (⟨#[]⟩ : ByteArray), .int .i64 0, .slice none 0 0, .slice none 0 0, .bool false, .string (⟨#[]⟩ : ByteArray)]) (t := 47) ?hr ?_; (case hd => rfl); (case hg => rfl); (case hr => first | (go_simp; done) | (go_simp; rfl)); intro gb281 hg w9 hbox hb; have n0_ := zae.mk (zaq (by repeat with_reducible first | exact HB.out | apply zad | apply zaa | apply zac) hb); have n1_ := zae.mk (hbox); have n2_ := zae.mk ((by rw [hg]; exact (zav (by repeat with_reducible first | exact HB.out | apply zad | apply zaa | apply zac)) : w.heap.size ≤ gb281)); have n3_ := n2_; clear HB; have HB := n0_; have BK281 := n1_; have GW281 := n2_; have GE281 := n3_; clear n0_ n1_ n2_ n3_; clear hb hbox hg; obtain ⟨d10_0, d10_1, d10_2, d10_3, d10_4, d10_5, d10_6, d10_7, d10_8, d10_9, d10_10, d10_11, d10_12, d10_13⟩ := cq14 BK281.out; obtain ⟨e10_0, e10_1, e10_2, e10_3, e10_4, e10_5, e10_6, e10_7, e10_8, e10_9, e10_10, e10_11, e10_12, e10_13⟩ := fq14 BK281.out) | ((with_reducible refine za3 (f := 29) rfl ?_); refine zbv (some 18) rfl rfl Tryd.func29 (by kernel_rfl) rfl #[.agg #[.int .i64 ((zah l0 a1).f0), .int .i64 ((zah l0 a1).f1.f0), .int .i64 ((zah l0 a1).f1.f1), .string ((zah l0 a1).f1.f2), .int .i64 ((zah l0 a1).f2), .int .i64 ((zah l0 a1).f3), .int .i64 ((zah l0 a1).f4.f0), .int .i64 ((zah l0 a1).f4.f1), .string ((zah l0 a1).f4.f2), .int .i64 ((zah l0 a1).f5), .slice A280_10 ((zah l0 a1).f6).length c280_10, .slice A280_11 ((zah l0 a1).f7).length c280_11, .bool ((zah l0 a1).f8), .string ((zah l0 a1).f9)]] rfl (by (try simp only [List.map_toArray, List.map_cons, List.map_nil]); first | done | rfl | (simp only [List.length_drop, List.length_take]; rfl)) ?_; (with_reducible refine (zao.calls k ((zah l0 a1).f0) ((zah l0 a1).f1.f0) ((zah l0 a1).f1.f1) ((zah l0 a1).f1.f2) ((zah l0 a1).f2) ((zah l0 a1).f3) ((zah l0 a1).f4.f0) ((zah l0 a1).f4.f1) ((zah l0 a1).f4.f2) ((zah l0 a1).f5) _ _ ((zah l0 a1).f6) _ _ ((zah l0 a1).f7) ((zah l0 a1).f8) ((zah l0 a1).f9) true _ ?side1 ?side2 ?side3 ?side4 A6.out).mono ?_); (case side1 => exact Kd.zbk HR280_10.out (by repeat with_reducible first | exact HB.out | apply zad | apply zaa | apply zac | refine zag ?_ GE281.out)); (case side2 => exact HC280_10.out); (case side3 => exact Kd.zbk HR280_11.out (by repeat with_reducible first | exact HB.out | apply zad | apply zaa | apply zac | refine zag ?_ GE281.out)); (case side4 => exact HC280_11.out); rintro e w11 ⟨rfl, hb⟩; refine ⟨_, rfl, ?_⟩; have n0_ := zae.mk (zau (g := gb281) (o := .cells #[.int .i64 ((zah l0 a1).f0), .int .i64 ((zah l0 a1).f1.f0), .int .i64 ((zah l0 a1).f1.f1), .string ((zah l0 a1).f1.f2), .int .i64 ((zah l0 a1).f2), .int .i64 ((zah l0 a1).f3), .int .i64 ((zah l0 a1).f4.f0), .int .i64 ((zah l0 a1).f4.f1), .string ((zah l0 a1).f4.f2), .int .i64 ((zah l0 a1).f5), .slice A280_10 ((zah l0 a1).f6).length c280_10, .slice A280_11 ((zah l0 a1).f7).length c280_11, .bool ((zah l0 a1).f8), .string ((zah l0 a1).f9)] 47 (0, 0)) (by (with_reducible repeat (first | refine zai ?_ _ | refine zak ?_ | refine zaj ?_ _)); refine pq14 (.int .i64 0) (.int .i64 0) (.int .i64 0) (.string (⟨#[]⟩ : ByteArray)) (.int .i64 0) (.int .i64 0) (.int .i64 0) (.int .i64 0) (.string (⟨#[]⟩ : ByteArray)) (.int .i64 0) (.slice none 0 0) (.slice none 0 0) (.bool false) (.string (⟨#[]⟩ : ByteArray)) ?_; (with_reducible repeat (first | refine zai ?_ _ | refine zak ?_ | refine zaj ?_ _)); exact BK281.out) hb); have n1_ := zae.mk (zaq (by repeat with_reducible first | exact HB.out | apply zad | apply zaa | apply zac | refine zag ?_ GE281.out) hb); clear BK281; clear HB; have BK281 := n0_; have HB := n1_; clear n0_ n1_; (try clear hb); (try clear hb2); (try clear hk); (try clear hi)))
     (try simp only [Act.put, List.setIfInBounds_toArray, List.set_cons_zero, List.set_cons_succ])
     go_cut [32] (fun v32 wc => ∃ (kq : Nat) (x32_7 : Bool), v32 = .bool x32_7 ∧ zae (zar.j0 kq l0 a1 x32_7 ((zah l0 a1).f0) ((zah l0 a1).f1.f0) ((zah l0 a1).f1.f1) ((zah l0 a1).f1.f2) ((zah l0 a1).f2) ((zah l0 a1).f3) ((zah l0 a1).f4.f0) ((zah l0 a1).f4.f1) ((zah l0 a1).f4.f2) ((zah l0 a1).f5) ((zah l0 a1).f6) ((zah l0 a1).f7) ((zah l0 a1).f8) ((zah l0 a1).f9) = some r) ∧ zae (kq ≤ k) ∧ zae (wc.heap[gb281]? = some (.cells #[.int .i64 ((zah l0 a1).f0), .int .i64 ((zah l0 a1).f1.f0), .int .i64 ((zah l0 a1).f1.f1), .string ((zah l0 a1).f1.f2), .int .i64 ((zah l0 a1).f2), .int .i64 ((zah l0 a1).f3), .int .i64 ((zah l0 a1).f4.f0), .int .i64 ((zah l0 a1).f4.f1), .string ((zah l0 a1).f4.f2), .int .i64 ((zah l0 a1).f5), (.slice A280_10 ((zah l0 a1).f6).length c280_10), (.slice A280_11 ((zah l0 a1).f7).length c280_11), .bool ((zah l0 a1).f8), .string ((zah l0 a1).f9)] 47 (0, 0))) ∧ zae (Below w.heap.size w wc))
     case first =>
      have H := HC8.out
      clear HC8
      by_cases c12 : a1 > 0
      ·rw [if_pos c12] at H
       have c12b0 : decide (0 < a1) = true := decide_eq_true c12
       clear c12
       (first | rw [c12b0] | (simp only [i64_w]; rw [c12b0]) | skip)
       obtain ⟨ji13, hji13⟩ : ∃ j_ : Int, (wrap64 (a1 - 1)) = j_ := ⟨_, rfl⟩
       replace H : (if 0 ≤ (ji13) then (if (ji13) < (l0.length : Int) then (zar.j0 k l0 a1 (decide (((zah l0 a1).f0) < ((zah l0 (ji13)).f0))) ((zah l0 a1).f0) ((zah l0 a1).f1.f0) ((zah l0 a1).f1.f1) ((zah l0 a1).f1.f2) ((zah l0 a1).f2) ((zah l0 a1).f3) ((zah l0 a1).f4.f0) ((zah l0 a1).f4.f1) ((zah l0 a1).f4.f2) ((zah l0 a1).f5) ((zah l0 a1).f6) ((zah l0 a1).f7) ((zah l0 a1).f8) ((zah l0 a1).f9)) else (none)) else (none)) = some r := by first | (rw [hji13] at H; exact H) | (simp only [hji13] at H ⊢; exact H)
       have hji13w : (IntKind.i64.wrap (a1 - 1)) = ji13 := (i64_w _).trans hji13
       by_cases c14 : 0 ≤ (ji13)
       ·rw [if_pos c14] at H
        have c14b0 : decide (0 ≤ (ji13)) = true := decide_eq_true c14
        clear c14
        by_cases c15 : (ji13) < (l0.length : Int)
        ·rw [if_pos c15] at H
         have c15b0 : decide ((ji13) < (l0.length : Int)) = true := decide_eq_true c15
         clear c15
         have H' := zae.mk H
         clear H
         try go_wp2
         have n0_ := zae.mk (zak BK281.out)
         have n1_ := zae.mk (zac HB.out)
         clear BK281
         clear HB
         have BK281 := n0_
         have HB := n1_
         clear n0_ n1_
         have p283 : 0 ≤ ((ji13) : Int) := of_decide_eq_true (by first | (with_reducible assumption) | assumption)
         have q283 : (ji13) < (l0.length : Int) := of_decide_eq_true (by first | (with_reducible assumption) | assumption)
         obtain ⟨ad283, A283_10, c283_10, A283_11, c283_11, e283, hx283_0, hx283_1, hx283_2, hx283_3, hx283_4, hx283_5, hx283_6, hx283_7, hx283_8, hx283_9, hx283_10, hx283_11, hx283_12, hx283_13, hl283_10, hi283_10, hl283_11, hi283_11⟩ := zcr HR0.out (ji13) p283 q283
         have hw283_13 := hx283_13
         have hw283_12 := hx283_12
         have hw283_11 := hx283_11
         have hw283_10 := hx283_10
         have hw283_9 := hx283_9
         have hw283_8 := hx283_8
         have hw283_7 := hx283_7
         have hw283_6 := hx283_6
         have hw283_5 := hx283_5
         have hw283_4 := hx283_4
         have hw283_3 := hx283_3
         have hw283_2 := hx283_2
         have hw283_1 := hx283_1
         have hw283_0 := hx283_0
         obtain rfl : ad280 = ad283 := (by injection e283)
         replace hx283_0 := zab HB.out hx283_0
         replace hx283_1 := zab HB.out hx283_1
         replace hx283_2 := zab HB.out hx283_2
         replace hx283_3 := zab HB.out hx283_3
         replace hx283_4 := zab HB.out hx283_4
         replace hx283_5 := zab HB.out hx283_5
         replace hx283_6 := zab HB.out hx283_6
         replace hx283_7 := zab HB.out hx283_7
         replace hx283_8 := zab HB.out hx283_8
         replace hx283_9 := zab HB.out hx283_9
         replace hx283_10 := zab HB.out hx283_10
         replace hx283_11 := zab HB.out hx283_11
         replace hx283_12 := zab HB.out hx283_12
         replace hx283_13 := zab HB.out hx283_13
         have HR283_10 := zae.mk hi283_10
         have HC283_10 := zae.mk hl283_10
         clear hi283_10 hl283_10
         have HR283_11 := zae.mk hi283_11
         have HC283_11 := zae.mk hl283_11
         clear hi283_11 hl283_11
         replace p283 := eq_true p283
         replace q283 := eq_true q283
         refine zcp (n := 13) (S := fun w' => w'.cell? ⟨gb281, 0, none⟩ = some (.int .i64 ((zah l0 a1).f0)) ∧ w'.cell? ⟨gb281, 1, none⟩ = some (.int .i64 ((zah l0 a1).f1.f0)) ∧ w'.cell? ⟨gb281, 2, none⟩ = some (.int .i64 ((zah l0 a1).f1.f1)) ∧ w'.cell? ⟨gb281, 3, none⟩ = some (.string ((zah l0 a1).f1.f2)) ∧ w'.cell? ⟨gb281, 4, none⟩ = some (.int .i64 ((zah l0 a1).f2)) ∧ w'.cell? ⟨gb281, 5, none⟩ = some (.int .i64 ((zah l0 a1).f3)) ∧ w'.cell? ⟨gb281, 6, none⟩ = some (.int .i64 ((zah l0 a1).f4.f0)) ∧ w'.cell? ⟨gb281, 7, none⟩ = some (.int .i64 ((zah l0 a1).f4.f1)) ∧ w'.cell? ⟨gb281, 8, none⟩ = some (.string ((zah l0 a1).f4.f2)) ∧ w'.cell? ⟨gb281, 9, none⟩ = some (.int .i64 ((zah l0 a1).f5)) ∧ w'.cell? ⟨gb281, 10, none⟩ = some (.slice A280_10 ((zah l0 a1).f6).length c280_10) ∧ w'.cell? ⟨gb281, 11, none⟩ = some (.slice A280_11 ((zah l0 a1).f7).length c280_11) ∧ w'.cell? ⟨gb281, 12, none⟩ = some (.bool ((zah l0 a1).f8)) ∧ w'.cell? ⟨gb281, 13, none⟩ = some (.string ((zah l0 a1).f9)) ∧ w'.cell? (ad280.add (((ji13)).toNat * 14)) = some (.int .i64 ((zah l0 (ji13)).f0)) ∧ w'.cell? ⟨(ad280.add (((ji13)).toNat * 14)).block, (ad280.add (((ji13)).toNat * 14)).off + 1, none⟩ = some (.int .i64 ((zah l0 (ji13)).f1.f0)) ∧ w'.cell? ⟨(ad280.add (((ji13)).toNat * 14)).block, (ad280.add (((ji13)).toNat * 14)).off + 2, none⟩ = some (.int .i64 ((zah l0 (ji13)).f1.f1)) ∧ w'.cell? ⟨(ad280.add (((ji13)).toNat * 14)).block, (ad280.add (((ji13)).toNat * 14)).off + 3, none⟩ = some (.string ((zah l0 (ji13)).f1.f2)) ∧ w'.cell? ⟨(ad280.add (((ji13)).toNat * 14)).block, (ad280.add (((ji13)).toNat * 14)).off + 4, none⟩ = some (.int .i64 ((zah l0 (ji13)).f2)) ∧ w'.cell? ⟨(ad280.add (((ji13)).toNat * 14)).block, (ad280.add (((ji13)).toNat * 14)).off + 5, none⟩ = some (.int .i64 ((zah l0 (ji13)).f3)) ∧ w'.cell? ⟨(ad280.add (((ji13)).toNat * 14)).block, (ad280.add (((ji13)).toNat * 14)).off + 6, none⟩ = some (.int .i64 ((zah l0 (ji13)).f4.f0)) ∧ w'.cell? ⟨(ad280.add (((ji13)).toNat * 14)).block, (ad280.add (((ji13)).toNat * 14)).off + 7, none⟩ = some (.int .i64 ((zah l0 (ji13)).f4.f1)) ∧ w'.cell? ⟨(ad280.add (((ji13)).toNat * 14)).block, (ad280.add (((ji13)).toNat * 14)).off + 8, none⟩ = some (.string ((zah l0 (ji13)).f4.f2)) ∧ w'.cell? ⟨(ad280.add (((ji13)).toNat * 14)).block, (ad280.add (((ji13)).toNat * 14)).off + 9, none⟩ = some (.int .i64 ((zah l0 (ji13)).f5)) ∧ w'.cell? ⟨(ad280.add (((ji13)).toNat * 14)).block, (ad280.add (((ji13)).toNat * 14)).off + 10, none⟩ = some (.slice A283_10 ((zah l0 (ji13)).f6).length c283_10) ∧ w'.cell? ⟨(ad280.add (((ji13)).toNat * 14)).block, (ad280.add (((ji13)).toNat * 14)).off + 11, none⟩ = some (.slice A283_11 ((zah l0 (ji13)).f7).length c283_11) ∧ w'.cell? ⟨(ad280.add (((ji13)).toNat * 14)).block, (ad280.add (((ji13)).toNat * 14)).off + 12, none⟩ = some (.bool ((zah l0 (ji13)).f8)) ∧ w'.cell? ⟨(ad280.add (((ji13)).toNat * 14)).block, (ad280.add (((ji13)).toNat * 14)).off + 13, none⟩ = some (.string ((zah l0 (ji13)).f9))) (ds := []) #[false, false, false, false, false, false, false, false, false, false, false, false, false] (by kernel_rfl) rfl rfl ⟨(zaf BK281.out 0).trans rfl, (zaf BK281.out 1).trans rfl, (zaf BK281.out 2).trans rfl, (zaf BK281.out 3).trans rfl, (zaf BK281.out 4).trans rfl, (zaf BK281.out 5).trans rfl, (zaf BK281.out 6).trans rfl, (zaf BK281.out 7).trans rfl, (zaf BK281.out 8).trans rfl, (zaf BK281.out 9).trans rfl, (zaf BK281.out 10).trans rfl, (zaf BK281.out 11).trans rfl, (zaf BK281.out 12).trans rfl, (zaf BK281.out 13).trans rfl, (zab HB.out hw283_0), (zab HB.out hw283_1), (zab HB.out hw283_2), (zab HB.out hw283_3), (zab HB.out hw283_4), (zab HB.out hw283_5), (zab HB.out hw283_6), (zab HB.out hw283_7), (zab HB.out hw283_8), (zab HB.out hw283_9), (zab HB.out hw283_10), (zab HB.out hw283_11), (zab HB.out hw283_12), (zab HB.out hw283_13)⟩ (fun hHeld => ?_); refine zci zar.tab6 zar.bits6 (fun HT_ HW_ => ?_)
         generalize w11.drew = w16 at BK281 HB HR283_10 HR283_11 hx283_0 hx283_1 hx283_10 hx283_11 hx283_12 hx283_13 hx283_2 hx283_3 hx283_4 hx283_5 hx283_6 hx283_7 hx283_8 hx283_9 hHeld ⊢
         refine pz_ 0 20 ?_ ?_ (bz 13 1) rfl rfl (zay HT_.out (by kernel_rfl)) (fun _ _ _ h => h) (Or.inl ⟨by rfl, ?_⟩) ?_ ?_; rotate_left 2; (intro w'; go_simp; with_reducible rfl); (simp only [zps]; rfl)
         refine pz_ 1 21 ?_ ?_ (bz 13 3) rfl rfl (zay HT_.out (by kernel_rfl)) (fun _ _ _ h => h) (Or.inl ⟨by rfl, ?_⟩) ?_ ?_; rotate_left 2; (intro w'; go_simp; with_reducible rfl); (simp only [zps]; rfl)
         refine pz_ 2 22 ?_ ?_ (bz 13 7) rfl rfl (zay HT_.out (by kernel_rfl)) (fun _ _ _ h => h) (Or.inl ⟨by rfl, ?_⟩) ?_ ?_; rotate_left 2; (intro w'; go_simp; with_reducible rfl); (simp only [zps]; rfl)
         refine pz_ 3 23 ?_ ?_ (bz 13 15) rfl rfl (zay HT_.out (by kernel_rfl)) (fun _ _ _ h => h) (Or.inl ⟨by rfl, ?_⟩) ?_ ?_; rotate_left 2; (intro w'; go_simp; with_reducible rfl); (simp only [zps]; rfl)
         refine pz_ 5 25 ?_ ?_ (bz 13 47) rfl rfl (zay HT_.out (by kernel_rfl)) (fun _ _ _ h => h) (Or.inl ⟨by rfl, ?_⟩) ?_ ?_; rotate_left 2; (intro w'; go_simp; with_reducible rfl); (simp only [zps]; rfl)
         refine pz_ 6 26 ?_ ?_ (bz 13 111) rfl rfl (zay HT_.out (by kernel_rfl)) (fun _ _ _ h => h) (Or.inl ⟨by rfl, ?_⟩) ?_ ?_; rotate_left 2; (intro w'; go_simp; with_reducible rfl); (simp only [zps]; rfl)
         refine pz_ 7 27 ?_ ?_ (bz 13 239) rfl rfl (zay HT_.out (by kernel_rfl)) (fun _ _ _ h => h) (Or.inl ⟨by rfl, ?_⟩) ?_ ?_; rotate_left 2; (intro w'; go_simp; with_reducible rfl); (simp only [zps]; rfl)
         refine pz_ 8 28 ?_ ?_ (bz 13 495) rfl rfl (zay HT_.out (by kernel_rfl)) (fun _ _ _ h => h) (Or.inl ⟨by rfl, ?_⟩) ?_ ?_; rotate_left 2; (intro w'; go_simp; with_reducible rfl); (simp only [zps]; rfl)
         refine pz_ 9 29 ?_ ?_ (bz 13 1007) rfl rfl (zay HT_.out (by kernel_rfl)) (fun _ _ _ h => h) (Or.inl ⟨by rfl, ?_⟩) ?_ ?_; rotate_left 2; (intro w'; go_simp; with_reducible rfl); (simp only [zps]; rfl)
         refine tz_ 4 24 ?_ ?_ (bz 13 1023) rfl rfl (zbt HT_.out HW_.out (by kernel_rfl)) (fun _ _ _ h => h) (Or.inl ⟨by rfl, ?_⟩) hHeld ?_ ?_; rotate_left 2; (rintro w' ⟨s0, s1, s2, s3, s4, s5, s6, s7, s8, s9, s10, s11, s12, s13, s14, s15, s16, s17, s18, s19, s20, s21, s22, s23, s24, s25, s26, s27⟩; go_simp; with_reducible rfl); (simp only [zps]; rfl)
         refine tz_ 10 30 ?_ ?_ (bz 13 2047) rfl rfl (zbt HT_.out HW_.out (by kernel_rfl)) (fun _ _ _ h => h) (Or.inl ⟨by rfl, ?_⟩) hHeld ?_ ?_; rotate_left 2; (rintro w' ⟨s0, s1, s2, s3, s4, s5, s6, s7, s8, s9, s10, s11, s12, s13, s14, s15, s16, s17, s18, s19, s20, s21, s22, s23, s24, s25, s26, s27⟩; go_simp; with_reducible rfl); (simp only [zps]; rfl)
         refine pz_ 11 31 ?_ ?_ (bz 13 4095) rfl rfl (zay HT_.out (by kernel_rfl)) (fun _ _ _ h => h) (Or.inl ⟨by rfl, ?_⟩) ?_ ?_; rotate_left 2; (intro w'; go_simp; with_reducible rfl); (simp only [zps]; rfl)
         refine pz_ 12 32 ?_ ?_ (bz 13 8191) rfl rfl (zay HT_.out (by kernel_rfl)) (fun _ _ _ h => h) (Or.inl ⟨by rfl, ?_⟩) ?_ ?_; rotate_left 2; (intro w'; go_simp; with_reducible rfl); (simp only [zps]; rfl)
         refine done_ (zcv HT_.out (by kernel_rfl)) ?_
         try go_wp2
         go_meet
         case rel => exact ⟨_, (decide (((zah l0 a1).f0) < ((zah l0 (ji13)).f0))), (by first | rfl | (simp; done) | (simp only [← hji13] <;> (first | rfl | simp)) | (simp [*]; done)), H', ⟨by first | omega | exact Nat.le_refl _⟩, ⟨by (with_reducible repeat (first | refine zai ?_ _ | refine zak ?_ | refine zaj ?_ _)); exact BK281.out⟩, ⟨by repeat with_reducible first | exact HB.out | apply zad | apply zaa | apply zac | refine zag ?_ GE281.out⟩⟩
        ·rw [if_neg c15] at H
         exact absurd H (by simp)
       ·rw [if_neg c14] at H
        exact absurd H (by simp)
      ·rw [if_neg c12] at H
       have c12b0 : decide (0 < a1) = false := decide_eq_false c12
       clear c12
       (first | rw [c12b0] | (simp only [i64_w]; rw [c12b0]) | skip)
       have H' := zae.mk H
       clear H
       try go_wp2
       have n0_ := zae.mk (zak BK281.out)
       have n1_ := zae.mk (zac HB.out)
       clear BK281
       clear HB
       have BK281 := n0_
       have HB := n1_
       clear n0_ n1_
       refine zcp (n := 13) (S := fun w' => True) (ds := []) #[false, false, false, false, false, false, false, false, false, false, false, false, false] (by kernel_rfl) rfl rfl trivial (fun hHeld => ?_); refine zci zar.tab6 zar.bits6 (fun HT_ HW_ => ?_)
       generalize w11.drew = w17 at BK281 HB hHeld ⊢
       refine pz_ 0 20 ?_ ?_ (bz 13 1) rfl rfl (zay HT_.out (by kernel_rfl)) (fun _ _ _ h => h) (Or.inl ⟨by rfl, ?_⟩) ?_ ?_; rotate_left 2; (intro w'; go_simp; with_reducible rfl); (simp only [zps]; rfl)
       refine pz_ 1 21 ?_ ?_ (bz 13 3) rfl rfl (zay HT_.out (by kernel_rfl)) (fun _ _ _ h => h) (Or.inl ⟨by rfl, ?_⟩) ?_ ?_; rotate_left 2; (intro w'; go_simp; with_reducible rfl); (simp only [zps]; rfl)
       refine pz_ 2 22 ?_ ?_ (bz 13 7) rfl rfl (zay HT_.out (by kernel_rfl)) (fun _ _ _ h => h) (Or.inl ⟨by rfl, ?_⟩) ?_ ?_; rotate_left 2; (intro w'; go_simp; with_reducible rfl); (simp only [zps]; rfl)
       refine pz_ 3 23 undef ?_ (bz 13 15) rfl rfl (zay HT_.out (by kernel_rfl)) (fun _ _ _ h => h) (Or.inr ⟨by rfl, rfl⟩) ?_ ?_; rotate_left; (simp only [zps]; rfl)
       refine pz_ 4 24 undef ?_ (bz 13 31) rfl rfl (zay HT_.out (by kernel_rfl)) (fun _ _ _ h => h) (Or.inr ⟨by rfl, rfl⟩) ?_ ?_; rotate_left; (simp only [zps]; rfl)
       refine pz_ 5 25 undef ?_ (bz 13 63) rfl rfl (zay HT_.out (by kernel_rfl)) (fun _ _ _ h => h) (Or.inr ⟨by rfl, rfl⟩) ?_ ?_; rotate_left; (simp only [zps]; rfl)
       refine pz_ 6 26 undef ?_ (bz 13 127) rfl rfl (zay HT_.out (by kernel_rfl)) (fun _ _ _ h => h) (Or.inr ⟨by rfl, rfl⟩) ?_ ?_; rotate_left; (simp only [zps]; rfl)
       refine pz_ 7 27 undef ?_ (bz 13 255) rfl rfl (zay HT_.out (by kernel_rfl)) (fun _ _ _ h => h) (Or.inr ⟨by rfl, rfl⟩) ?_ ?_; rotate_left; (simp only [zps]; rfl)
       refine pz_ 8 28 undef ?_ (bz 13 511) rfl rfl (zay HT_.out (by kernel_rfl)) (fun _ _ _ h => h) (Or.inr ⟨by rfl, rfl⟩) ?_ ?_; rotate_left; (simp only [zps]; rfl)
       refine pz_ 9 29 undef ?_ (bz 13 1023) rfl rfl (zay HT_.out (by kernel_rfl)) (fun _ _ _ h => h) (Or.inr ⟨by rfl, rfl⟩) ?_ ?_; rotate_left; (simp only [zps]; rfl)
       refine pz_ 10 30 undef ?_ (bz 13 2047) rfl rfl (zay HT_.out (by kernel_rfl)) (fun _ _ _ h => h) (Or.inr ⟨by rfl, rfl⟩) ?_ ?_; rotate_left; (simp only [zps]; rfl)
       refine pz_ 11 31 undef ?_ (bz 13 4095) rfl rfl (zay HT_.out (by kernel_rfl)) (fun _ _ _ h => h) (Or.inr ⟨by rfl, rfl⟩) ?_ ?_; rotate_left; (simp only [zps]; rfl)
       refine pz_ 12 32 ?_ ?_ (bz 13 8191) rfl rfl (zay HT_.out (by kernel_rfl)) (fun _ _ _ h => h) (Or.inl ⟨by rfl, ?_⟩) ?_ ?_; rotate_left 2; (intro w'; go_simp; with_reducible rfl); (simp only [zps]; rfl)
       refine done_ (zcv HT_.out (by kernel_rfl)) ?_
       try go_wp2
       go_meet
       case rel => exact ⟨_, (false), (by first | rfl | (simp; done) | (simp [*]; done)), H', ⟨by first | omega | exact Nat.le_refl _⟩, ⟨by (with_reducible repeat (first | refine zai ?_ _ | refine zak ?_ | refine zaj ?_ _)); exact BK281.out⟩, ⟨by repeat with_reducible first | exact HB.out | apply zad | apply zaa | apply zac | refine zag ?_ GE281.out⟩⟩
     case rest =>
      clear HC8
      try clear c1
      try clear c2
      try clear p2
      try clear q2
      try clear hx2
      try clear c3
      try clear c3b0
      try clear c4
      try clear c4b0
      try clear c5
      try clear c5b0
      try clear p6
      try clear c7
      try clear c12
      try clear c12b0
      try clear c14
      try clear c14b0
      try clear c15
      try clear c15b0
      try clear d10_0 d10_1 d10_10 d10_11 d10_12 d10_13 d10_2 d10_3 d10_4 d10_5 d10_6 d10_7 d10_8 d10_9
      try clear e10_0 e10_1 e10_10 e10_11 e10_12 e10_13 e10_2 e10_3 e10_4 e10_5 e10_6 e10_7 e10_8 e10_9
      try clear hx280_0
      try clear hx280_1
      try clear hx280_10
      try clear hx280_11
      try clear hx280_12
      try clear hx280_13
      try clear hx280_2
      try clear hx280_3
      try clear hx280_4
      try clear hx280_5
      try clear hx280_6
      try clear hx280_7
      try clear hx280_8
      try clear hx280_9
      try clear hx283_0
      try clear hx283_1
      try clear hx283_10
      try clear hx283_11
      try clear hx283_12
      try clear hx283_13
      try clear hx283_2
      try clear hx283_3
      try clear hx283_4
      try clear hx283_5
      try clear hx283_6
      try clear hx283_7
      try clear hx283_8
      try clear hx283_9
      try clear p280
      try clear p283
      try clear q280
      try clear q283
      obtain ⟨kq, x32_7, rfl, HA, HJ7, BK281, HB⟩ := hcut
      cases kq with
      | zero => exact absurd HA.out (by simp [zar.j0])
      | succ kj7 =>
       have H := HA.out
       clear HA
       simp only [zar.j0] at H
       by_cases c18 : x32_7 = true
       ·subst c18
        have H1 : (some 4) = some r := by rw [if_pos rfl] at H; exact H
        clear H
        have H := H1
        clear H1
        obtain rfl := Option.some.inj H
        go_wp2
        go_ret
        exact ⟨by first | rfl | (simp [zam, zal] <;> rfl) | (simp [*, zam, zal] <;> rfl), by repeat with_reducible first | exact HB.out | apply zad | apply zaa | apply zac | refine zag ?_ GE281.out⟩
       ·replace c18 := Bool.eq_false_iff.mpr c18
        subst c18
        have H1 : ((zbj.f kj7 l0 a1).bind fun t284 => (if t284 ≥ 0 then (if 0 ≤ t284 then (if t284 < (l0.length : Int) then (zar.j1 kj7 l0 t284 (((zah l0 t284).f2) == 1) ((zah l0 a1).f0) ((zah l0 a1).f1.f0) ((zah l0 a1).f1.f1) ((zah l0 a1).f1.f2) ((zah l0 a1).f2) ((zah l0 a1).f3) ((zah l0 a1).f4.f0) ((zah l0 a1).f4.f1) ((zah l0 a1).f4.f2) ((zah l0 a1).f5) ((zah l0 a1).f6) ((zah l0 a1).f7) ((zah l0 a1).f8) ((zah l0 a1).f9)) else (none)) else (none)) else (zar.j1 kj7 l0 t284 false ((zah l0 a1).f0) ((zah l0 a1).f1.f0) ((zah l0 a1).f1.f1) ((zah l0 a1).f1.f2) ((zah l0 a1).f2) ((zah l0 a1).f3) ((zah l0 a1).f4.f0) ((zah l0 a1).f4.f1) ((zah l0 a1).f4.f2) ((zah l0 a1).f5) ((zah l0 a1).f6) ((zah l0 a1).f7) ((zah l0 a1).f8) ((zah l0 a1).f9)))) = some r := by rw [if_neg (show ¬ (false = true) by decide)] at H; exact H
        clear H
        have H := H1
        clear H1
        replace H := Option.bind_eq_some_iff.mp H
        obtain ⟨t284, A190, H⟩ := H
        replace H : (if t284 ≥ 0 then (if 0 ≤ t284 then (if t284 < (l0.length : Int) then (zar.j1 kj7 l0 t284 (((zah l0 t284).f2) == 1) ((zah l0 a1).f0) ((zah l0 a1).f1.f0) ((zah l0 a1).f1.f1) ((zah l0 a1).f1.f2) ((zah l0 a1).f2) ((zah l0 a1).f3) ((zah l0 a1).f4.f0) ((zah l0 a1).f4.f1) ((zah l0 a1).f4.f2) ((zah l0 a1).f5) ((zah l0 a1).f6) ((zah l0 a1).f7) ((zah l0 a1).f8) ((zah l0 a1).f9)) else (none)) else (none)) else (zar.j1 kj7 l0 t284 false ((zah l0 a1).f0) ((zah l0 a1).f1.f0) ((zah l0 a1).f1.f1) ((zah l0 a1).f1.f2) ((zah l0 a1).f2) ((zah l0 a1).f3) ((zah l0 a1).f4.f0) ((zah l0 a1).f4.f1) ((zah l0 a1).f4.f2) ((zah l0 a1).f5) ((zah l0 a1).f6) ((zah l0 a1).f7) ((zah l0 a1).f8) ((zah l0 a1).f9))) = some r := H
        have A19 := zae.mk A190
        clear A190
        have HC20 := zae.mk H
        clear H
        go_upto_region 9 with (first | ((with_reducible refine za3 (f := 30) rfl ?_); refine zbv (some 35) rfl rfl Tryd.func30 (by kernel_rfl) rfl #[.slice (some ad280) l0.length c0, .int .i64 a1] rfl (by (try simp only [List.map_toArray, List.map_cons, List.map_nil]); first | done | rfl | (simp only [List.length_drop, List.length_take]; rfl)) ?_; (with_reducible refine (zbj.calls kj7 _ _ l0 a1 t284 _ ?side1 ?side2 A19.out).mono ?_); (case side1 => repeat (first | exact (Kd.zbk HR0.out HB.out) | (with_reducible refine Kd.zbx ?_ _) | (with_reducible refine Kd.C_drewN ?_ _) | (with_reducible refine Kd.C_drew ?_))); (case side2 => exact HC0.out); rintro e w' ⟨rfl, ⟨nd, rfl⟩⟩; refine ⟨_, rfl, ?_⟩))
        (try simp only [Act.put, List.setIfInBounds_toArray, List.set_cons_zero, List.set_cons_succ])
        go_cut [7] (fun v7 wc => ∃ (kq : Nat) (x7_19 : Bool), v7 = .bool x7_19 ∧ zae (zar.j1 kq l0 t284 x7_19 ((zah l0 a1).f0) ((zah l0 a1).f1.f0) ((zah l0 a1).f1.f1) ((zah l0 a1).f1.f2) ((zah l0 a1).f2) ((zah l0 a1).f3) ((zah l0 a1).f4.f0) ((zah l0 a1).f4.f1) ((zah l0 a1).f4.f2) ((zah l0 a1).f5) ((zah l0 a1).f6) ((zah l0 a1).f7) ((zah l0 a1).f8) ((zah l0 a1).f9) = some r) ∧ zae (kq ≤ kj7) ∧ zae (wc.heap[gb281]? = some (.cells #[.int .i64 ((zah l0 a1).f0), .int .i64 ((zah l0 a1).f1.f0), .int .i64 ((zah l0 a1).f1.f1), .string ((zah l0 a1).f1.f2), .int .i64 ((zah l0 a1).f2), .int .i64 ((zah l0 a1).f3), .int .i64 ((zah l0 a1).f4.f0), .int .i64 ((zah l0 a1).f4.f1), .string ((zah l0 a1).f4.f2), .int .i64 ((zah l0 a1).f5), (.slice A280_10 ((zah l0 a1).f6).length c280_10), (.slice A280_11 ((zah l0 a1).f7).length c280_11), .bool ((zah l0 a1).f8), .string ((zah l0 a1).f9)] 47 (0, 0))) ∧ zae (Below w.heap.size w wc))
        case first =>
         have H := HC20.out
         clear HC20
         by_cases c21 : t284 ≥ 0
         ·rw [if_pos c21] at H
          have c21b0 : decide (0 ≤ t284) = true := decide_eq_true c21
          clear c21
          (first | rw [c21b0] | (simp only [i64_w]; rw [c21b0]) | skip)
          by_cases c22 : 0 ≤ t284
          ·rw [if_pos c22] at H
           have c22b0 : decide (0 ≤ t284) = true := decide_eq_true c22
           clear c22
           by_cases c23 : t284 < (l0.length : Int)
           ·rw [if_pos c23] at H
            have c23b0 : decide (t284 < (l0.length : Int)) = true := decide_eq_true c23
            clear c23
            have H' := zae.mk H
            clear H
            have p285 : 0 ≤ (t284 : Int) := of_decide_eq_true (by first | (with_reducible assumption) | assumption)
            have q285 : t284 < (l0.length : Int) := of_decide_eq_true (by first | (with_reducible assumption) | assumption)
            obtain ⟨ad285, A285_10, c285_10, A285_11, c285_11, e285, hx285_0, hx285_1, hx285_2, hx285_3, hx285_4, hx285_5, hx285_6, hx285_7, hx285_8, hx285_9, hx285_10, hx285_11, hx285_12, hx285_13, hl285_10, hi285_10, hl285_11, hi285_11⟩ := zcr HR0.out t284 p285 q285
            obtain rfl : ad280 = ad285 := (by injection e285)
            replace hx285_0 := zab HB.out hx285_0
            replace hx285_1 := zab HB.out hx285_1
            replace hx285_2 := zab HB.out hx285_2
            replace hx285_3 := zab HB.out hx285_3
            replace hx285_4 := zab HB.out hx285_4
            replace hx285_5 := zab HB.out hx285_5
            replace hx285_6 := zab HB.out hx285_6
            replace hx285_7 := zab HB.out hx285_7
            replace hx285_8 := zab HB.out hx285_8
            replace hx285_9 := zab HB.out hx285_9
            replace hx285_10 := zab HB.out hx285_10
            replace hx285_11 := zab HB.out hx285_11
            replace hx285_12 := zab HB.out hx285_12
            replace hx285_13 := zab HB.out hx285_13
            have HR285_10 := zae.mk hi285_10
            have HC285_10 := zae.mk hl285_10
            clear hi285_10 hl285_10
            have HR285_11 := zae.mk hi285_11
            have HC285_11 := zae.mk hl285_11
            clear hi285_11 hl285_11
            replace p285 := eq_true p285
            replace q285 := eq_true q285
            go_wp2
            go_meet
            case rel => exact ⟨_, ((((zah l0 t284).f2) == 1)), (by first | rfl | (simp; done) | (simp [*]; done)), H', ⟨by have := HJ7.out; first | omega | exact Nat.le_refl _⟩, ⟨by (with_reducible repeat (first | refine zai ?_ _ | refine zak ?_ | refine zaj ?_ _)); exact BK281.out⟩, ⟨by repeat with_reducible first | exact HB.out | apply zad | apply zaa | apply zac | refine zag ?_ GE281.out⟩⟩
           ·rw [if_neg c23] at H
            exact absurd H (by simp)
          ·rw [if_neg c22] at H
           exact absurd H (by simp)
         ·rw [if_neg c21] at H
          have c21b0 : decide (0 ≤ t284) = false := decide_eq_false c21
          clear c21
          (first | rw [c21b0] | (simp only [i64_w]; rw [c21b0]) | skip)
          have H' := zae.mk H
          clear H
          go_wp2
          go_meet
          case rel => exact ⟨_, (false), (by first | rfl | (simp; done) | (simp [*]; done)), H', ⟨by have := HJ7.out; first | omega | exact Nat.le_refl _⟩, ⟨by (with_reducible repeat (first | refine zai ?_ _ | refine zak ?_ | refine zaj ?_ _)); exact BK281.out⟩, ⟨by repeat with_reducible first | exact HB.out | apply zad | apply zaa | apply zac | refine zag ?_ GE281.out⟩⟩
        case rest =>
         clear HC20
         try clear c1
         try clear c2
         try clear p2 p2
         try clear q2 q2
         try clear hx2
         try clear c3
         try clear c3b0
         try clear c4
         try clear c4b0
         try clear c5
         try clear c5b0
         try clear p6 p6
         try clear c7
         try clear c12
         try clear c12b0
         try clear c14
         try clear c14b0
         try clear c15
         try clear c15b0
         try clear c18
         try clear c21
         try clear c21b0
         try clear c22
         try clear c22b0
         try clear c23
         try clear c23b0
         try clear d10_0 d10_1 d10_10 d10_11 d10_12 d10_13 d10_2 d10_3 d10_4 d10_5 d10_6 d10_7 d10_8 d10_9
         try clear e10_0 e10_1 e10_10 e10_11 e10_12 e10_13 e10_2 e10_3 e10_4 e10_5 e10_6 e10_7 e10_8 e10_9
         try clear hx280_0
         try clear hx280_1
         try clear hx280_10
         try clear hx280_11
         try clear hx280_12
         try clear hx280_13
         try clear hx280_2
         try clear hx280_3
         try clear hx280_4
         try clear hx280_5
         try clear hx280_6
         try clear hx280_7
         try clear hx280_8
         try clear hx280_9
         try clear hx283_0
         try clear hx283_1
         try clear hx283_10
         try clear hx283_11
         try clear hx283_12
         try clear hx283_13
         try clear hx283_2
         try clear hx283_3
         try clear hx283_4
         try clear hx283_5
         try clear hx283_6
         try clear hx283_7
         try clear hx283_8
         try clear hx283_9
         try clear hx285_0
         try clear hx285_1
         try clear hx285_10
         try clear hx285_11
         try clear hx285_12
         try clear hx285_13
         try clear hx285_2
         try clear hx285_3
         try clear hx285_4
         try clear hx285_5
         try clear hx285_6
         try clear hx285_7
         try clear hx285_8
         try clear hx285_9
         try clear p280
         try clear p283
         try clear p285
         try clear q280
         try clear q283
         try clear q285
         obtain ⟨kq, x7_19, rfl, HA, HJ19, BK281, HB⟩ := hcut
         cases kq with
         | zero => exact absurd HA.out (by simp [zar.j1])
         | succ kj19 =>
          have H := HA.out
          clear HA
          simp only [zar.j1] at H
          have HC24 := zae.mk H
          clear H
          go_upto_region 10 with (fail)
          go_cut [8] (fun v8 wc => ∃ (kq : Nat) (x8_23 : Bool), v8 = .bool x8_23 ∧ zae (zar.j2 kq l0 t284 x7_19 x8_23 ((zah l0 a1).f0) ((zah l0 a1).f1.f0) ((zah l0 a1).f1.f1) ((zah l0 a1).f1.f2) ((zah l0 a1).f2) ((zah l0 a1).f3) ((zah l0 a1).f4.f0) ((zah l0 a1).f4.f1) ((zah l0 a1).f4.f2) ((zah l0 a1).f5) ((zah l0 a1).f6) ((zah l0 a1).f7) ((zah l0 a1).f8) ((zah l0 a1).f9) = some r) ∧ zae (kq ≤ kj19) ∧ zae (wc.heap[gb281]? = some (.cells #[.int .i64 ((zah l0 a1).f0), .int .i64 ((zah l0 a1).f1.f0), .int .i64 ((zah l0 a1).f1.f1), .string ((zah l0 a1).f1.f2), .int .i64 ((zah l0 a1).f2), .int .i64 ((zah l0 a1).f3), .int .i64 ((zah l0 a1).f4.f0), .int .i64 ((zah l0 a1).f4.f1), .string ((zah l0 a1).f4.f2), .int .i64 ((zah l0 a1).f5), (.slice A280_10 ((zah l0 a1).f6).length c280_10), (.slice A280_11 ((zah l0 a1).f7).length c280_11), .bool ((zah l0 a1).f8), .string ((zah l0 a1).f9)] 47 (0, 0))) ∧ zae (Below w.heap.size w wc))
          case first =>
           have H := HC24.out
           clear HC24
           by_cases c25 : t284 ≥ 0
           ·rw [if_pos c25] at H
            have c25b0 : decide (0 ≤ t284) = true := decide_eq_true c25
            clear c25
            (first | rw [c25b0] | (simp only [i64_w]; rw [c25b0]) | skip)
            by_cases c26 : 0 ≤ t284
            ·rw [if_pos c26] at H
             have c26b0 : decide (0 ≤ t284) = true := decide_eq_true c26
             clear c26
             by_cases c27 : t284 < (l0.length : Int)
             ·rw [if_pos c27] at H
              have c27b0 : decide (t284 < (l0.length : Int)) = true := decide_eq_true c27
              clear c27
              have H' := zae.mk H
              clear H
              have p286 : 0 ≤ (t284 : Int) := of_decide_eq_true (by first | (with_reducible assumption) | assumption)
              have q286 : t284 < (l0.length : Int) := of_decide_eq_true (by first | (with_reducible assumption) | assumption)
              obtain ⟨ad286, A286_10, c286_10, A286_11, c286_11, e286, hx286_0, hx286_1, hx286_2, hx286_3, hx286_4, hx286_5, hx286_6, hx286_7, hx286_8, hx286_9, hx286_10, hx286_11, hx286_12, hx286_13, hl286_10, hi286_10, hl286_11, hi286_11⟩ := zcr HR0.out t284 p286 q286
              obtain rfl : ad280 = ad286 := (by injection e286)
              replace hx286_0 := zab HB.out hx286_0
              replace hx286_1 := zab HB.out hx286_1
              replace hx286_2 := zab HB.out hx286_2
              replace hx286_3 := zab HB.out hx286_3
              replace hx286_4 := zab HB.out hx286_4
              replace hx286_5 := zab HB.out hx286_5
              replace hx286_6 := zab HB.out hx286_6
              replace hx286_7 := zab HB.out hx286_7
              replace hx286_8 := zab HB.out hx286_8
              replace hx286_9 := zab HB.out hx286_9
              replace hx286_10 := zab HB.out hx286_10
              replace hx286_11 := zab HB.out hx286_11
              replace hx286_12 := zab HB.out hx286_12
              replace hx286_13 := zab HB.out hx286_13
              have HR286_10 := zae.mk hi286_10
              have HC286_10 := zae.mk hl286_10
              clear hi286_10 hl286_10
              have HR286_11 := zae.mk hi286_11
              have HC286_11 := zae.mk hl286_11
              clear hi286_11 hl286_11
              replace p286 := eq_true p286
              replace q286 := eq_true q286
              go_wp2
              go_meet
              case rel => exact ⟨_, ((((zah l0 t284).f2) == 4)), (by first | rfl | (simp; done) | (simp [*]; done)), H', ⟨by have := HJ7.out; have := HJ19.out; first | omega | exact Nat.le_refl _⟩, ⟨by (with_reducible repeat (first | refine zai ?_ _ | refine zak ?_ | refine zaj ?_ _)); exact BK281.out⟩, ⟨by repeat with_reducible first | exact HB.out | apply zad | apply zaa | apply zac | refine zag ?_ GE281.out⟩⟩
             ·rw [if_neg c27] at H
              exact absurd H (by simp)
            ·rw [if_neg c26] at H
             exact absurd H (by simp)
           ·rw [if_neg c25] at H
            have c25b0 : decide (0 ≤ t284) = false := decide_eq_false c25
            clear c25
            (first | rw [c25b0] | (simp only [i64_w]; rw [c25b0]) | skip)
            have H' := zae.mk H
            clear H
            go_wp2
            go_meet
            case rel => exact ⟨_, (false), (by first | rfl | (simp; done) | (simp [*]; done)), H', ⟨by have := HJ7.out; have := HJ19.out; first | omega | exact Nat.le_refl _⟩, ⟨by (with_reducible repeat (first | refine zai ?_ _ | refine zak ?_ | refine zaj ?_ _)); exact BK281.out⟩, ⟨by repeat with_reducible first | exact HB.out | apply zad | apply zaa | apply zac | refine zag ?_ GE281.out⟩⟩
          case rest =>
           clear HC24
           try clear c1
           try clear c2
           try clear p2 p2
           try clear q2 q2
           try clear hx2
           try clear c3
           try clear c3b0
           try clear c4
           try clear c4b0
           try clear c5
           try clear c5b0
           try clear p6 p6
           try clear c7
           try clear c12
           try clear c12b0
           try clear c14
           try clear c14b0
           try clear c15
           try clear c15b0
           try clear c18
           try clear c21
           try clear c21b0
           try clear c22
           try clear c22b0
           try clear c23
           try clear c23b0
           try clear c25
           try clear c25b0
           try clear c26
           try clear c26b0
           try clear c27
           try clear c27b0
           try clear d10_0 d10_1 d10_10 d10_11 d10_12 d10_13 d10_2 d10_3 d10_4 d10_5 d10_6 d10_7 d10_8 d10_9
           try clear e10_0 e10_1 e10_10 e10_11 e10_12 e10_13 e10_2 e10_3 e10_4 e10_5 e10_6 e10_7 e10_8 e10_9
           try clear hx280_0
           try clear hx280_1
           try clear hx280_10
           try clear hx280_11
           try clear hx280_12
           try clear hx280_13
           try clear hx280_2
           try clear hx280_3
           try clear hx280_4
           try clear hx280_5
           try clear hx280_6
           try clear hx280_7
           try clear hx280_8
           try clear hx280_9
           try clear hx283_0
           try clear hx283_1
           try clear hx283_10
           try clear hx283_11
           try clear hx283_12
           try clear hx283_13
           try clear hx283_2
           try clear hx283_3
           try clear hx283_4
           try clear hx283_5
           try clear hx283_6
           try clear hx283_7
           try clear hx283_8
           try clear hx283_9
           try clear hx285_0
           try clear hx285_1
           try clear hx285_10
           try clear hx285_11
           try clear hx285_12
           try clear hx285_13
           try clear hx285_2
           try clear hx285_3
           try clear hx285_4
           try clear hx285_5
           try clear hx285_6
           try clear hx285_7
           try clear hx285_8
           try clear hx285_9
           try clear hx286_0
           try clear hx286_1
           try clear hx286_10
           try clear hx286_11
           try clear hx286_12
           try clear hx286_13
           try clear hx286_2
           try clear hx286_3
           try clear hx286_4
           try clear hx286_5
           try clear hx286_6
           try clear hx286_7
           try clear hx286_8
           try clear hx286_9
           try clear p280
           try clear p283
           try clear p285
           try clear p286
           try clear q280
           try clear q283
           try clear q285
           try clear q286
           obtain ⟨kq, x8_23, rfl, HA, HJ23, BK281, HB⟩ := hcut
           cases kq with
           | zero => exact absurd HA.out (by simp [zar.j2])
           | succ kj23 =>
            have H := HA.out
            clear HA
            simp only [zar.j2] at H
            by_cases c28 : ((zah l0 a1).f2) = 1
            ·rw [if_pos c28] at H
             have c28b0 : (((zah l0 a1).f2) == 1) = true := beq_iff_eq.mpr c28
             have c28b1 : (((zah l0 a1).f2) != 1) = false := bne_eq_false_iff_eq.mpr c28
             clear c28
             by_cases c29 : x7_19 = true
             ·subst c29
              have H1 : (some 4) = some r := by rw [if_pos rfl] at H; exact H
              clear H
              have H := H1
              clear H1
              obtain rfl := Option.some.inj H
              obtain ⟨d30_0, d30_1, d30_2, d30_3, d30_4, d30_5, d30_6, d30_7, d30_8, d30_9, d30_10, d30_11, d30_12, d30_13⟩ := cq14 BK281.out
              obtain ⟨e30_0, e30_1, e30_2, e30_3, e30_4, e30_5, e30_6, e30_7, e30_8, e30_9, e30_10, e30_11, e30_12, e30_13⟩ := fq14 BK281.out
              go_wp2
              go_ret
              exact ⟨by first | rfl | (simp [zam, zal] <;> rfl) | (simp [*, zam, zal] <;> rfl), by repeat with_reducible first | exact HB.out | apply zad | apply zaa | apply zac | refine zag ?_ GE281.out⟩
             ·replace c29 := Bool.eq_false_iff.mpr c29
              subst c29
              have H1 : (if x8_23 = true then (some 4) else (some 0)) = some r := by rw [if_neg (show ¬ (false = true) by decide)] at H; exact H
              clear H
              have H := H1
              clear H1
              by_cases c31 : x8_23 = true
              ·subst c31
               have H1 : (some 4) = some r := by rw [if_pos rfl] at H; exact H
               clear H
               have H := H1
               clear H1
               obtain rfl := Option.some.inj H
               obtain ⟨d32_0, d32_1, d32_2, d32_3, d32_4, d32_5, d32_6, d32_7, d32_8, d32_9, d32_10, d32_11, d32_12, d32_13⟩ := cq14 BK281.out
               obtain ⟨e32_0, e32_1, e32_2, e32_3, e32_4, e32_5, e32_6, e32_7, e32_8, e32_9, e32_10, e32_11, e32_12, e32_13⟩ := fq14 BK281.out
               go_wp2
               go_ret
               exact ⟨by first | rfl | (simp [zam, zal] <;> rfl) | (simp [*, zam, zal] <;> rfl), by repeat with_reducible first | exact HB.out | apply zad | apply zaa | apply zac | refine zag ?_ GE281.out⟩
              ·replace c31 := Bool.eq_false_iff.mpr c31
               subst c31
               have H1 : (some 0) = some r := by rw [if_neg (show ¬ (false = true) by decide)] at H; exact H
               clear H
               have H := H1
               clear H1
               obtain rfl := Option.some.inj H
               obtain ⟨d33_0, d33_1, d33_2, d33_3, d33_4, d33_5, d33_6, d33_7, d33_8, d33_9, d33_10, d33_11, d33_12, d33_13⟩ := cq14 BK281.out
               obtain ⟨e33_0, e33_1, e33_2, e33_3, e33_4, e33_5, e33_6, e33_7, e33_8, e33_9, e33_10, e33_11, e33_12, e33_13⟩ := fq14 BK281.out
               go_wp2
               go_ret
               exact ⟨by first | rfl | (simp [zam, zal] <;> rfl) | (simp [*, zam, zal] <;> rfl), by repeat with_reducible first | exact HB.out | apply zad | apply zaa | apply zac | refine zag ?_ GE281.out⟩
            ·rw [if_neg c28] at H
             have c28b0 : (((zah l0 a1).f2) == 1) = false := beq_eq_false_iff_ne.mpr c28
             have c28b1 : (((zah l0 a1).f2) != 1) = true := bne_iff_ne.mpr c28
             by_cases c34 : x7_19 = true
             ·subst c34
              have H1 : (if ((zah l0 a1).f2) = 2 then (if 0 ≤ t284 then (if t284 < (l0.length : Int) then ((zat.f kj23 ((zah l0 t284).f3) ((zah l0 t284).f5) ((zah l0 a1).f7)).bind fun bt289 => (if bt289.2 = true then (some 0) else (some 4))) else (none)) else (none)) else (some 0)) = some r := by rw [if_pos rfl] at H; exact H
              clear H
              have H := H1
              clear H1
              by_cases c35 : ((zah l0 a1).f2) = 2
              ·rw [if_pos c35] at H
               have c35b0 : (((zah l0 a1).f2) == 2) = true := beq_iff_eq.mpr c35
               have c35b1 : (((zah l0 a1).f2) != 2) = false := bne_eq_false_iff_eq.mpr c35
               clear c35
               by_cases c36 : 0 ≤ t284
               ·rw [if_pos c36] at H
                have c36b0 : decide (0 ≤ t284) = true := decide_eq_true c36
                clear c36
                by_cases c37 : t284 < (l0.length : Int)
                ·rw [if_pos c37] at H
                 have c37b0 : decide (t284 < (l0.length : Int)) = true := decide_eq_true c37
                 clear c37
                 replace H := Option.bind_eq_some_iff.mp H
                 obtain ⟨⟨t289, t290⟩, A380, H⟩ := H
                 replace H : (if t290 = true then (some 0) else (some 4)) = some r := H
                 have A38 := zae.mk A380
                 clear A380
                 by_cases c39 : t290 = true
                 ·subst c39
                  have H1 : (some 0) = some r := by rw [if_pos rfl] at H; exact H
                  clear H
                  have H := H1
                  clear H1
                  obtain rfl := Option.some.inj H
                  obtain ⟨d40_0, d40_1, d40_2, d40_3, d40_4, d40_5, d40_6, d40_7, d40_8, d40_9, d40_10, d40_11, d40_12, d40_13⟩ := cq14 BK281.out
                  obtain ⟨e40_0, e40_1, e40_2, e40_3, e40_4, e40_5, e40_6, e40_7, e40_8, e40_9, e40_10, e40_11, e40_12, e40_13⟩ := fq14 BK281.out
                  try go_wp2
                  have n0_ := zae.mk (zak BK281.out)
                  have n1_ := zae.mk (zac HB.out)
                  clear BK281
                  clear HB
                  have BK281 := n0_
                  have HB := n1_
                  clear n0_ n1_
                  have p287 : 0 ≤ (t284 : Int) := of_decide_eq_true (by first | (with_reducible assumption) | assumption)
                  have q287 : t284 < (l0.length : Int) := of_decide_eq_true (by first | (with_reducible assumption) | assumption)
                  obtain ⟨ad287, A287_10, c287_10, A287_11, c287_11, e287, hx287_0, hx287_1, hx287_2, hx287_3, hx287_4, hx287_5, hx287_6, hx287_7, hx287_8, hx287_9, hx287_10, hx287_11, hx287_12, hx287_13, hl287_10, hi287_10, hl287_11, hi287_11⟩ := zcr HR0.out t284 p287 q287
                  have hw287_13 := hx287_13
                  have hw287_12 := hx287_12
                  have hw287_11 := hx287_11
                  have hw287_10 := hx287_10
                  have hw287_9 := hx287_9
                  have hw287_8 := hx287_8
                  have hw287_7 := hx287_7
                  have hw287_6 := hx287_6
                  have hw287_5 := hx287_5
                  have hw287_4 := hx287_4
                  have hw287_3 := hx287_3
                  have hw287_2 := hx287_2
                  have hw287_1 := hx287_1
                  have hw287_0 := hx287_0
                  obtain rfl : ad280 = ad287 := (by injection e287)
                  replace hx287_0 := zab HB.out hx287_0
                  replace hx287_1 := zab HB.out hx287_1
                  replace hx287_2 := zab HB.out hx287_2
                  replace hx287_3 := zab HB.out hx287_3
                  replace hx287_4 := zab HB.out hx287_4
                  replace hx287_5 := zab HB.out hx287_5
                  replace hx287_6 := zab HB.out hx287_6
                  replace hx287_7 := zab HB.out hx287_7
                  replace hx287_8 := zab HB.out hx287_8
                  replace hx287_9 := zab HB.out hx287_9
                  replace hx287_10 := zab HB.out hx287_10
                  replace hx287_11 := zab HB.out hx287_11
                  replace hx287_12 := zab HB.out hx287_12
                  replace hx287_13 := zab HB.out hx287_13
                  have HR287_10 := zae.mk hi287_10
                  have HC287_10 := zae.mk hl287_10
                  clear hi287_10 hl287_10
                  have HR287_11 := zae.mk hi287_11
                  have HC287_11 := zae.mk hl287_11
                  clear hi287_11 hl287_11
                  replace p287 := eq_true p287
                  replace q287 := eq_true q287
                  have p288 : 0 ≤ (t284 : Int) := of_decide_eq_true (by first | (with_reducible assumption) | assumption)
                  have q288 : t284 < (l0.length : Int) := of_decide_eq_true (by first | (with_reducible assumption) | assumption)
                  obtain ⟨ad288, A288_10, c288_10, A288_11, c288_11, e288, hx288_0, hx288_1, hx288_2, hx288_3, hx288_4, hx288_5, hx288_6, hx288_7, hx288_8, hx288_9, hx288_10, hx288_11, hx288_12, hx288_13, hl288_10, hi288_10, hl288_11, hi288_11⟩ := zcr HR0.out t284 p288 q288
                  have hw288_13 := hx288_13
                  have hw288_12 := hx288_12
                  have hw288_11 := hx288_11
                  have hw288_10 := hx288_10
                  have hw288_9 := hx288_9
                  have hw288_8 := hx288_8
                  have hw288_7 := hx288_7
                  have hw288_6 := hx288_6
                  have hw288_5 := hx288_5
                  have hw288_4 := hx288_4
                  have hw288_3 := hx288_3
                  have hw288_2 := hx288_2
                  have hw288_1 := hx288_1
                  have hw288_0 := hx288_0
                  obtain rfl : ad280 = ad288 := (by injection e288)
                  replace hx288_0 := zab HB.out hx288_0
                  replace hx288_1 := zab HB.out hx288_1
                  replace hx288_2 := zab HB.out hx288_2
                  replace hx288_3 := zab HB.out hx288_3
                  replace hx288_4 := zab HB.out hx288_4
                  replace hx288_5 := zab HB.out hx288_5
                  replace hx288_6 := zab HB.out hx288_6
                  replace hx288_7 := zab HB.out hx288_7
                  replace hx288_8 := zab HB.out hx288_8
                  replace hx288_9 := zab HB.out hx288_9
                  replace hx288_10 := zab HB.out hx288_10
                  replace hx288_11 := zab HB.out hx288_11
                  replace hx288_12 := zab HB.out hx288_12
                  replace hx288_13 := zab HB.out hx288_13
                  have HR288_10 := zae.mk hi288_10
                  have HC288_10 := zae.mk hl288_10
                  clear hi288_10 hl288_10
                  have HR288_11 := zae.mk hi288_11
                  have HC288_11 := zae.mk hl288_11
                  clear hi288_11 hl288_11
                  replace p288 := eq_true p288
                  replace q288 := eq_true q288
                  have ea_ := Option.some.inj (hx287_10.symm.trans hx288_10)
                  injection ea_ with ea_ en_ ec_
                  subst ea_
                  subst ec_
                  clear en_
                  have ea_ := Option.some.inj (hx287_11.symm.trans hx288_11)
                  injection ea_ with ea_ en_ ec_
                  subst ea_
                  subst ec_
                  clear en_
                  refine zcp (n := 18) (S := fun w' => w'.cell? ⟨gb281, 0, none⟩ = some (.int .i64 ((zah l0 a1).f0)) ∧ w'.cell? ⟨gb281, 1, none⟩ = some (.int .i64 ((zah l0 a1).f1.f0)) ∧ w'.cell? ⟨gb281, 2, none⟩ = some (.int .i64 ((zah l0 a1).f1.f1)) ∧ w'.cell? ⟨gb281, 3, none⟩ = some (.string ((zah l0 a1).f1.f2)) ∧ w'.cell? ⟨gb281, 4, none⟩ = some (.int .i64 ((zah l0 a1).f2)) ∧ w'.cell? ⟨gb281, 5, none⟩ = some (.int .i64 ((zah l0 a1).f3)) ∧ w'.cell? ⟨gb281, 6, none⟩ = some (.int .i64 ((zah l0 a1).f4.f0)) ∧ w'.cell? ⟨gb281, 7, none⟩ = some (.int .i64 ((zah l0 a1).f4.f1)) ∧ w'.cell? ⟨gb281, 8, none⟩ = some (.string ((zah l0 a1).f4.f2)) ∧ w'.cell? ⟨gb281, 9, none⟩ = some (.int .i64 ((zah l0 a1).f5)) ∧ w'.cell? ⟨gb281, 10, none⟩ = some (.slice A280_10 ((zah l0 a1).f6).length c280_10) ∧ w'.cell? ⟨gb281, 11, none⟩ = some (.slice A280_11 ((zah l0 a1).f7).length c280_11) ∧ w'.cell? ⟨gb281, 12, none⟩ = some (.bool ((zah l0 a1).f8)) ∧ w'.cell? ⟨gb281, 13, none⟩ = some (.string ((zah l0 a1).f9)) ∧ w'.cell? (ad280.add ((t284).toNat * 14)) = some (.int .i64 ((zah l0 t284).f0)) ∧ w'.cell? ⟨(ad280.add ((t284).toNat * 14)).block, (ad280.add ((t284).toNat * 14)).off + 1, none⟩ = some (.int .i64 ((zah l0 t284).f1.f0)) ∧ w'.cell? ⟨(ad280.add ((t284).toNat * 14)).block, (ad280.add ((t284).toNat * 14)).off + 2, none⟩ = some (.int .i64 ((zah l0 t284).f1.f1)) ∧ w'.cell? ⟨(ad280.add ((t284).toNat * 14)).block, (ad280.add ((t284).toNat * 14)).off + 3, none⟩ = some (.string ((zah l0 t284).f1.f2)) ∧ w'.cell? ⟨(ad280.add ((t284).toNat * 14)).block, (ad280.add ((t284).toNat * 14)).off + 4, none⟩ = some (.int .i64 ((zah l0 t284).f2)) ∧ w'.cell? ⟨(ad280.add ((t284).toNat * 14)).block, (ad280.add ((t284).toNat * 14)).off + 5, none⟩ = some (.int .i64 ((zah l0 t284).f3)) ∧ w'.cell? ⟨(ad280.add ((t284).toNat * 14)).block, (ad280.add ((t284).toNat * 14)).off + 6, none⟩ = some (.int .i64 ((zah l0 t284).f4.f0)) ∧ w'.cell? ⟨(ad280.add ((t284).toNat * 14)).block, (ad280.add ((t284).toNat * 14)).off + 7, none⟩ = some (.int .i64 ((zah l0 t284).f4.f1)) ∧ w'.cell? ⟨(ad280.add ((t284).toNat * 14)).block, (ad280.add ((t284).toNat * 14)).off + 8, none⟩ = some (.string ((zah l0 t284).f4.f2)) ∧ w'.cell? ⟨(ad280.add ((t284).toNat * 14)).block, (ad280.add ((t284).toNat * 14)).off + 9, none⟩ = some (.int .i64 ((zah l0 t284).f5)) ∧ w'.cell? ⟨(ad280.add ((t284).toNat * 14)).block, (ad280.add ((t284).toNat * 14)).off + 10, none⟩ = some (.slice A287_10 ((zah l0 t284).f6).length c287_10) ∧ w'.cell? ⟨(ad280.add ((t284).toNat * 14)).block, (ad280.add ((t284).toNat * 14)).off + 11, none⟩ = some (.slice A287_11 ((zah l0 t284).f7).length c287_11) ∧ w'.cell? ⟨(ad280.add ((t284).toNat * 14)).block, (ad280.add ((t284).toNat * 14)).off + 12, none⟩ = some (.bool ((zah l0 t284).f8)) ∧ w'.cell? ⟨(ad280.add ((t284).toNat * 14)).block, (ad280.add ((t284).toNat * 14)).off + 13, none⟩ = some (.string ((zah l0 t284).f9)) ∧ w'.cell? (ad280.add ((t284).toNat * 14)) = some (.int .i64 ((zah l0 t284).f0)) ∧ w'.cell? ⟨(ad280.add ((t284).toNat * 14)).block, (ad280.add ((t284).toNat * 14)).off + 1, none⟩ = some (.int .i64 ((zah l0 t284).f1.f0)) ∧ w'.cell? ⟨(ad280.add ((t284).toNat * 14)).block, (ad280.add ((t284).toNat * 14)).off + 2, none⟩ = some (.int .i64 ((zah l0 t284).f1.f1)) ∧ w'.cell? ⟨(ad280.add ((t284).toNat * 14)).block, (ad280.add ((t284).toNat * 14)).off + 3, none⟩ = some (.string ((zah l0 t284).f1.f2)) ∧ w'.cell? ⟨(ad280.add ((t284).toNat * 14)).block, (ad280.add ((t284).toNat * 14)).off + 4, none⟩ = some (.int .i64 ((zah l0 t284).f2)) ∧ w'.cell? ⟨(ad280.add ((t284).toNat * 14)).block, (ad280.add ((t284).toNat * 14)).off + 5, none⟩ = some (.int .i64 ((zah l0 t284).f3)) ∧ w'.cell? ⟨(ad280.add ((t284).toNat * 14)).block, (ad280.add ((t284).toNat * 14)).off + 6, none⟩ = some (.int .i64 ((zah l0 t284).f4.f0)) ∧ w'.cell? ⟨(ad280.add ((t284).toNat * 14)).block, (ad280.add ((t284).toNat * 14)).off + 7, none⟩ = some (.int .i64 ((zah l0 t284).f4.f1)) ∧ w'.cell? ⟨(ad280.add ((t284).toNat * 14)).block, (ad280.add ((t284).toNat * 14)).off + 8, none⟩ = some (.string ((zah l0 t284).f4.f2)) ∧ w'.cell? ⟨(ad280.add ((t284).toNat * 14)).block, (ad280.add ((t284).toNat * 14)).off + 9, none⟩ = some (.int .i64 ((zah l0 t284).f5)) ∧ w'.cell? ⟨(ad280.add ((t284).toNat * 14)).block, (ad280.add ((t284).toNat * 14)).off + 10, none⟩ = some (.slice A287_10 ((zah l0 t284).f6).length c287_10) ∧ w'.cell? ⟨(ad280.add ((t284).toNat * 14)).block, (ad280.add ((t284).toNat * 14)).off + 11, none⟩ = some (.slice A287_11 ((zah l0 t284).f7).length c287_11) ∧ w'.cell? ⟨(ad280.add ((t284).toNat * 14)).block, (ad280.add ((t284).toNat * 14)).off + 12, none⟩ = some (.bool ((zah l0 t284).f8)) ∧ w'.cell? ⟨(ad280.add ((t284).toNat * 14)).block, (ad280.add ((t284).toNat * 14)).off + 13, none⟩ = some (.string ((zah l0 t284).f9))) (ds := []) #[false, false, false, false, false, false, false, false, false, false, false, false, false, false, false, false, false, false] (by kernel_rfl) rfl rfl ⟨(zaf BK281.out 0).trans rfl, (zaf BK281.out 1).trans rfl, (zaf BK281.out 2).trans rfl, (zaf BK281.out 3).trans rfl, (zaf BK281.out 4).trans rfl, (zaf BK281.out 5).trans rfl, (zaf BK281.out 6).trans rfl, (zaf BK281.out 7).trans rfl, (zaf BK281.out 8).trans rfl, (zaf BK281.out 9).trans rfl, (zaf BK281.out 10).trans rfl, (zaf BK281.out 11).trans rfl, (zaf BK281.out 12).trans rfl, (zaf BK281.out 13).trans rfl, (zab HB.out hw287_0), (zab HB.out hw287_1), (zab HB.out hw287_2), (zab HB.out hw287_3), (zab HB.out hw287_4), (zab HB.out hw287_5), (zab HB.out hw287_6), (zab HB.out hw287_7), (zab HB.out hw287_8), (zab HB.out hw287_9), (zab HB.out hw287_10), (zab HB.out hw287_11), (zab HB.out hw287_12), (zab HB.out hw287_13), (zab HB.out hw288_0), (zab HB.out hw288_1), (zab HB.out hw288_2), (zab HB.out hw288_3), (zab HB.out hw288_4), (zab HB.out hw288_5), (zab HB.out hw288_6), (zab HB.out hw288_7), (zab HB.out hw288_8), (zab HB.out hw288_9), (zab HB.out hw288_10), (zab HB.out hw288_11), (zab HB.out hw288_12), (zab HB.out hw288_13)⟩ (fun hHeld => ?_); refine zci zar.tab18 zar.bits18 (fun HT_ HW_ => ?_)
                  generalize wc.drew = w41 at BK281 HB HR287_10 HR287_11 HR288_10 HR288_11 hx287_0 hx287_1 hx287_10 hx287_11 hx287_12 hx287_13 hx287_2 hx287_3 hx287_4 hx287_5 hx287_6 hx287_7 hx287_8 hx287_9 hx288_0 hx288_1 hx288_10 hx288_11 hx288_12 hx288_13 hx288_2 hx288_3 hx288_4 hx288_5 hx288_6 hx288_7 hx288_8 hx288_9 hHeld ⊢
                  refine pz_ 0 69 ?_ ?_ (bz 18 1) rfl rfl (zay HT_.out (by kernel_rfl)) (fun _ _ _ h => h) (Or.inl ⟨by rfl, ?_⟩) ?_ ?_; rotate_left 2; (intro w'; go_simp; with_reducible rfl); (simp only [zps]; rfl)
                  refine pz_ 1 70 ?_ ?_ (bz 18 3) rfl rfl (zay HT_.out (by kernel_rfl)) (fun _ _ _ h => h) (Or.inl ⟨by rfl, ?_⟩) ?_ ?_; rotate_left 2; (intro w'; go_simp; with_reducible rfl); (simp only [zps]; rfl)
                  refine pz_ 2 71 ?_ ?_ (bz 18 7) rfl rfl (zay HT_.out (by kernel_rfl)) (fun _ _ _ h => h) (Or.inl ⟨by rfl, ?_⟩) ?_ ?_; rotate_left 2; (intro w'; go_simp; with_reducible rfl); (simp only [zps]; rfl)
                  refine pz_ 3 72 ?_ ?_ (bz 18 15) rfl rfl (zay HT_.out (by kernel_rfl)) (fun _ _ _ h => h) (Or.inl ⟨by rfl, ?_⟩) ?_ ?_; rotate_left 2; (intro w'; go_simp; with_reducible rfl); (simp only [zps]; rfl)
                  refine pz_ 5 74 ?_ ?_ (bz 18 47) rfl rfl (zay HT_.out (by kernel_rfl)) (fun _ _ _ h => h) (Or.inl ⟨by rfl, ?_⟩) ?_ ?_; rotate_left 2; (intro w'; go_simp; with_reducible rfl); (simp only [zps]; rfl)
                  refine pz_ 6 75 ?_ ?_ (bz 18 111) rfl rfl (zay HT_.out (by kernel_rfl)) (fun _ _ _ h => h) (Or.inl ⟨by rfl, ?_⟩) ?_ ?_; rotate_left 2; (intro w'; go_simp; with_reducible rfl); (simp only [zps]; rfl)
                  refine pz_ 7 76 ?_ ?_ (bz 18 239) rfl rfl (zay HT_.out (by kernel_rfl)) (fun _ _ _ h => h) (Or.inl ⟨by rfl, ?_⟩) ?_ ?_; rotate_left 2; (intro w'; go_simp; with_reducible rfl); (simp only [zps]; rfl)
                  refine pz_ 8 77 ?_ ?_ (bz 18 495) rfl rfl (zay HT_.out (by kernel_rfl)) (fun _ _ _ h => h) (Or.inl ⟨by rfl, ?_⟩) ?_ ?_; rotate_left 2; (intro w'; go_simp; with_reducible rfl); (simp only [zps]; rfl)
                  refine pz_ 10 79 ?_ ?_ (bz 18 1519) rfl rfl (zay HT_.out (by kernel_rfl)) (fun _ _ _ h => h) (Or.inl ⟨by rfl, ?_⟩) ?_ ?_; rotate_left 2; (intro w'; go_simp; with_reducible rfl); (simp only [zps]; rfl)
                  refine tz_ 4 73 ?_ ?_ (bz 18 1535) rfl rfl (zbt HT_.out HW_.out (by kernel_rfl)) (fun _ _ _ h => h) (Or.inl ⟨by rfl, ?_⟩) hHeld ?_ ?_; rotate_left 2; (rintro w' ⟨s0, s1, s2, s3, s4, s5, s6, s7, s8, s9, s10, s11, s12, s13, s14, s15, s16, s17, s18, s19, s20, s21, s22, s23, s24, s25, s26, s27, s28, s29, s30, s31, s32, s33, s34, s35, s36, s37, s38, s39, s40, s41⟩; go_simp; with_reducible rfl); (simp only [zps]; rfl)
                  refine tz_ 9 78 ?_ ?_ (bz 18 2047) rfl rfl (zbt HT_.out HW_.out (by kernel_rfl)) (fun _ _ _ h => h) (Or.inl ⟨by rfl, ?_⟩) hHeld ?_ ?_; rotate_left 2; (rintro w' ⟨s0, s1, s2, s3, s4, s5, s6, s7, s8, s9, s10, s11, s12, s13, s14, s15, s16, s17, s18, s19, s20, s21, s22, s23, s24, s25, s26, s27, s28, s29, s30, s31, s32, s33, s34, s35, s36, s37, s38, s39, s40, s41⟩; go_simp; with_reducible rfl); (simp only [zps]; rfl)
                  refine tz_ 11 80 ?_ ?_ (bz 18 4095) rfl rfl (zbt HT_.out HW_.out (by kernel_rfl)) (fun _ _ _ h => h) (Or.inl ⟨by rfl, ?_⟩) hHeld ?_ ?_; rotate_left 2; (rintro w' ⟨s0, s1, s2, s3, s4, s5, s6, s7, s8, s9, s10, s11, s12, s13, s14, s15, s16, s17, s18, s19, s20, s21, s22, s23, s24, s25, s26, s27, s28, s29, s30, s31, s32, s33, s34, s35, s36, s37, s38, s39, s40, s41⟩; go_simp; with_reducible rfl); (simp only [zps]; rfl)
                  refine one_ (i := 12) (N := some 81) (bz 18 8191) rfl rfl (one_of HT_.out (by kernel_rfl)) (by decide) (fun K hK => ?_)
                  refine goes_ Tryd.func31 (by kernel_rfl) rfl #[.int .i64 ((zah l0 t284).f3), .int .i64 ((zah l0 t284).f5), .slice A280_11 ((zah l0 a1).f7).length c280_11] (by rfl) rfl rfl (by (try simp only [List.map_toArray, List.map_cons, List.map_nil]); first | done | rfl | (simp only [List.length_drop, List.length_take]; rfl)) ?_
                  with_reducible refine (zat.calls kj23 ((zah l0 t284).f3) ((zah l0 t284).f5) _ _ ((zah l0 a1).f7) t289 true _ ?side1 ?side2 A38.out).mono ?_
                  (case side1 => repeat (first | exact (Kd.zbk HR280_11.out HB.out) | (with_reducible refine Kd.zbx ?_ _) | (with_reducible refine Kd.C_drewN ?_ _) | (with_reducible refine Kd.C_drew ?_)))
                  (case side2 => exact HC280_11.out)
                  rintro e w42 ⟨v291, rfl, ho0, hb⟩
                  refine ⟨_, rfl, ?_⟩
                  have n0_ := zae.mk (Kd.zcd ho0 (zav (by repeat with_reducible first | exact HB.out | apply zad | apply zaa | apply zac | refine zag ?_ GE281.out)))
                  have n1_ := zae.mk (zau (g := gb281) (o := .cells #[.int .i64 ((zah l0 a1).f0), .int .i64 ((zah l0 a1).f1.f0), .int .i64 ((zah l0 a1).f1.f1), .string ((zah l0 a1).f1.f2), .int .i64 ((zah l0 a1).f2), .int .i64 ((zah l0 a1).f3), .int .i64 ((zah l0 a1).f4.f0), .int .i64 ((zah l0 a1).f4.f1), .string ((zah l0 a1).f4.f2), .int .i64 ((zah l0 a1).f5), .slice A280_10 ((zah l0 a1).f6).length c280_10, .slice A280_11 ((zah l0 a1).f7).length c280_11, .bool ((zah l0 a1).f8), .string ((zah l0 a1).f9)] 47 (0, 0)) (by (with_reducible repeat (first | refine zai ?_ _ | refine zak ?_ | refine zaj ?_ _)); exact BK281.out) hb)
                  have n2_ := zae.mk (zaq (by repeat with_reducible first | exact HB.out | apply zad | apply zaa | apply zac | refine zag ?_ GE281.out) hb)
                  clear BK281
                  clear HB
                  have HO292 := n0_
                  have BK281 := n1_
                  have HB := n2_
                  clear n0_ n1_ n2_
                  try clear hb
                  try clear hb2
                  try clear hk
                  try clear hi
                  try clear ho0
                  refine hK.out _ _ ⟨(zaf BK281.out 0).trans rfl, (zaf BK281.out 1).trans rfl, (zaf BK281.out 2).trans rfl, (zaf BK281.out 3).trans rfl, (zaf BK281.out 4).trans rfl, (zaf BK281.out 5).trans rfl, (zaf BK281.out 6).trans rfl, (zaf BK281.out 7).trans rfl, (zaf BK281.out 8).trans rfl, (zaf BK281.out 9).trans rfl, (zaf BK281.out 10).trans rfl, (zaf BK281.out 11).trans rfl, (zaf BK281.out 12).trans rfl, (zaf BK281.out 13).trans rfl, (zab HB.out hw287_0), (zab HB.out hw287_1), (zab HB.out hw287_2), (zab HB.out hw287_3), (zab HB.out hw287_4), (zab HB.out hw287_5), (zab HB.out hw287_6), (zab HB.out hw287_7), (zab HB.out hw287_8), (zab HB.out hw287_9), (zab HB.out hw287_10), (zab HB.out hw287_11), (zab HB.out hw287_12), (zab HB.out hw287_13), (zab HB.out hw288_0), (zab HB.out hw288_1), (zab HB.out hw288_2), (zab HB.out hw288_3), (zab HB.out hw288_4), (zab HB.out hw288_5), (zab HB.out hw288_6), (zab HB.out hw288_7), (zab HB.out hw288_8), (zab HB.out hw288_9), (zab HB.out hw288_10), (zab HB.out hw288_11), (zab HB.out hw288_12), (zab HB.out hw288_13)⟩ (fun hHeld => ?_)
                  clear hK K
                  refine norm_ (a' := ?_) ?_ ?_
                  rotate_left
                  ·show Act.put _ (some 81) _ = _
                   simp only [zps]
                   rfl
                  refine pz_ 13 68 ?_ ?_ (bz 18 16383) rfl rfl (zay HT_.out (by kernel_rfl)) (fun _ _ _ h => h) (Or.inl ⟨by rfl, ?_⟩) ?_ ?_; rotate_left 2; (intro w'; go_simp; with_reducible rfl); (simp only [zps]; rfl)
                  refine pz_ 14 82 ?_ ?_ (bz 18 32767) rfl rfl (zay HT_.out (by kernel_rfl)) (fun _ _ _ h => h) (Or.inl ⟨by rfl, ?_⟩) ?_ ?_; rotate_left 2; (intro w'; go_simp; with_reducible rfl); (simp only [zps]; rfl)
                  refine pz_ 15 83 ?_ ?_ (bz 18 65535) rfl rfl (zay HT_.out (by kernel_rfl)) (fun _ _ _ h => h) (Or.inl ⟨by rfl, ?_⟩) ?_ ?_; rotate_left 2; (intro w'; go_simp; with_reducible rfl); (simp only [zps]; rfl)
                  refine pz_ 16 9 ?_ ?_ (bz 18 131071) rfl rfl (zay HT_.out (by kernel_rfl)) (fun _ _ _ h => h) (Or.inl ⟨by rfl, ?_⟩) ?_ ?_; rotate_left 2; (intro w'; go_simp; with_reducible rfl); (simp only [zps]; rfl)
                  refine pz_ 17 10 ?_ ?_ (bz 18 262143) rfl rfl (zay HT_.out (by kernel_rfl)) (fun _ _ _ h => h) (Or.inl ⟨by rfl, ?_⟩) ?_ ?_; rotate_left 2; (intro w'; go_simp; with_reducible rfl); (simp only [zps]; rfl)
                  refine done_ (zcv HT_.out (by kernel_rfl)) ?_
                  try go_wp2
                  go_ret
                  exact ⟨by first | rfl | (simp [zam, zal] <;> rfl) | (simp [*, zam, zal] <;> rfl), by repeat with_reducible first | exact HB.out | apply zad | apply zaa | apply zac | refine zag ?_ GE281.out⟩
                 ·replace c39 := Bool.eq_false_iff.mpr c39
                  subst c39
                  have H1 : (some 4) = some r := by rw [if_neg (show ¬ (false = true) by decide)] at H; exact H
                  clear H
                  have H := H1
                  clear H1
                  obtain rfl := Option.some.inj H
                  obtain ⟨d43_0, d43_1, d43_2, d43_3, d43_4, d43_5, d43_6, d43_7, d43_8, d43_9, d43_10, d43_11, d43_12, d43_13⟩ := cq14 BK281.out
                  obtain ⟨e43_0, e43_1, e43_2, e43_3, e43_4, e43_5, e43_6, e43_7, e43_8, e43_9, e43_10, e43_11, e43_12, e43_13⟩ := fq14 BK281.out
                  try go_wp2
                  have n0_ := zae.mk (zak BK281.out)
                  have n1_ := zae.mk (zac HB.out)
                  clear BK281
                  clear HB
                  have BK281 := n0_
                  have HB := n1_
                  clear n0_ n1_
                  have p287 : 0 ≤ (t284 : Int) := of_decide_eq_true (by first | (with_reducible assumption) | assumption)
                  have q287 : t284 < (l0.length : Int) := of_decide_eq_true (by first | (with_reducible assumption) | assumption)
                  obtain ⟨ad287, A287_10, c287_10, A287_11, c287_11, e287, hx287_0, hx287_1, hx287_2, hx287_3, hx287_4, hx287_5, hx287_6, hx287_7, hx287_8, hx287_9, hx287_10, hx287_11, hx287_12, hx287_13, hl287_10, hi287_10, hl287_11, hi287_11⟩ := zcr HR0.out t284 p287 q287
                  have hw287_13 := hx287_13
                  have hw287_12 := hx287_12
                  have hw287_11 := hx287_11
                  have hw287_10 := hx287_10
                  have hw287_9 := hx287_9
                  have hw287_8 := hx287_8
                  have hw287_7 := hx287_7
                  have hw287_6 := hx287_6
                  have hw287_5 := hx287_5
                  have hw287_4 := hx287_4
                  have hw287_3 := hx287_3
                  have hw287_2 := hx287_2
                  have hw287_1 := hx287_1
                  have hw287_0 := hx287_0
                  obtain rfl : ad280 = ad287 := (by injection e287)
                  replace hx287_0 := zab HB.out hx287_0
                  replace hx287_1 := zab HB.out hx287_1
                  replace hx287_2 := zab HB.out hx287_2
                  replace hx287_3 := zab HB.out hx287_3
                  replace hx287_4 := zab HB.out hx287_4
                  replace hx287_5 := zab HB.out hx287_5
                  replace hx287_6 := zab HB.out hx287_6
                  replace hx287_7 := zab HB.out hx287_7
                  replace hx287_8 := zab HB.out hx287_8
                  replace hx287_9 := zab HB.out hx287_9
                  replace hx287_10 := zab HB.out hx287_10
                  replace hx287_11 := zab HB.out hx287_11
                  replace hx287_12 := zab HB.out hx287_12
                  replace hx287_13 := zab HB.out hx287_13
                  have HR287_10 := zae.mk hi287_10
                  have HC287_10 := zae.mk hl287_10
                  clear hi287_10 hl287_10
                  have HR287_11 := zae.mk hi287_11
                  have HC287_11 := zae.mk hl287_11
                  clear hi287_11 hl287_11
                  replace p287 := eq_true p287
                  replace q287 := eq_true q287
                  have p288 : 0 ≤ (t284 : Int) := of_decide_eq_true (by first | (with_reducible assumption) | assumption)
                  have q288 : t284 < (l0.length : Int) := of_decide_eq_true (by first | (with_reducible assumption) | assumption)
                  obtain ⟨ad288, A288_10, c288_10, A288_11, c288_11, e288, hx288_0, hx288_1, hx288_2, hx288_3, hx288_4, hx288_5, hx288_6, hx288_7, hx288_8, hx288_9, hx288_10, hx288_11, hx288_12, hx288_13, hl288_10, hi288_10, hl288_11, hi288_11⟩ := zcr HR0.out t284 p288 q288
                  have hw288_13 := hx288_13
                  have hw288_12 := hx288_12
                  have hw288_11 := hx288_11
                  have hw288_10 := hx288_10
                  have hw288_9 := hx288_9
                  have hw288_8 := hx288_8
                  have hw288_7 := hx288_7
                  have hw288_6 := hx288_6
                  have hw288_5 := hx288_5
                  have hw288_4 := hx288_4
                  have hw288_3 := hx288_3
                  have hw288_2 := hx288_2
                  have hw288_1 := hx288_1
                  have hw288_0 := hx288_0
                  obtain rfl : ad280 = ad288 := (by injection e288)
                  replace hx288_0 := zab HB.out hx288_0
                  replace hx288_1 := zab HB.out hx288_1
                  replace hx288_2 := zab HB.out hx288_2
                  replace hx288_3 := zab HB.out hx288_3
                  replace hx288_4 := zab HB.out hx288_4
                  replace hx288_5 := zab HB.out hx288_5
                  replace hx288_6 := zab HB.out hx288_6
                  replace hx288_7 := zab HB.out hx288_7
                  replace hx288_8 := zab HB.out hx288_8
                  replace hx288_9 := zab HB.out hx288_9
                  replace hx288_10 := zab HB.out hx288_10
                  replace hx288_11 := zab HB.out hx288_11
                  replace hx288_12 := zab HB.out hx288_12
                  replace hx288_13 := zab HB.out hx288_13
                  have HR288_10 := zae.mk hi288_10
                  have HC288_10 := zae.mk hl288_10
                  clear hi288_10 hl288_10
                  have HR288_11 := zae.mk hi288_11
                  have HC288_11 := zae.mk hl288_11
                  clear hi288_11 hl288_11
                  replace p288 := eq_true p288
                  replace q288 := eq_true q288
                  have ea_ := Option.some.inj (hx287_10.symm.trans hx288_10)
                  injection ea_ with ea_ en_ ec_
                  subst ea_
                  subst ec_
                  clear en_
                  have ea_ := Option.some.inj (hx287_11.symm.trans hx288_11)
                  injection ea_ with ea_ en_ ec_
                  subst ea_
                  subst ec_
                  clear en_
                  refine zcp (n := 18) (S := fun w' => w'.cell? ⟨gb281, 0, none⟩ = some (.int .i64 ((zah l0 a1).f0)) ∧ w'.cell? ⟨gb281, 1, none⟩ = some (.int .i64 ((zah l0 a1).f1.f0)) ∧ w'.cell? ⟨gb281, 2, none⟩ = some (.int .i64 ((zah l0 a1).f1.f1)) ∧ w'.cell? ⟨gb281, 3, none⟩ = some (.string ((zah l0 a1).f1.f2)) ∧ w'.cell? ⟨gb281, 4, none⟩ = some (.int .i64 ((zah l0 a1).f2)) ∧ w'.cell? ⟨gb281, 5, none⟩ = some (.int .i64 ((zah l0 a1).f3)) ∧ w'.cell? ⟨gb281, 6, none⟩ = some (.int .i64 ((zah l0 a1).f4.f0)) ∧ w'.cell? ⟨gb281, 7, none⟩ = some (.int .i64 ((zah l0 a1).f4.f1)) ∧ w'.cell? ⟨gb281, 8, none⟩ = some (.string ((zah l0 a1).f4.f2)) ∧ w'.cell? ⟨gb281, 9, none⟩ = some (.int .i64 ((zah l0 a1).f5)) ∧ w'.cell? ⟨gb281, 10, none⟩ = some (.slice A280_10 ((zah l0 a1).f6).length c280_10) ∧ w'.cell? ⟨gb281, 11, none⟩ = some (.slice A280_11 ((zah l0 a1).f7).length c280_11) ∧ w'.cell? ⟨gb281, 12, none⟩ = some (.bool ((zah l0 a1).f8)) ∧ w'.cell? ⟨gb281, 13, none⟩ = some (.string ((zah l0 a1).f9)) ∧ w'.cell? (ad280.add ((t284).toNat * 14)) = some (.int .i64 ((zah l0 t284).f0)) ∧ w'.cell? ⟨(ad280.add ((t284).toNat * 14)).block, (ad280.add ((t284).toNat * 14)).off + 1, none⟩ = some (.int .i64 ((zah l0 t284).f1.f0)) ∧ w'.cell? ⟨(ad280.add ((t284).toNat * 14)).block, (ad280.add ((t284).toNat * 14)).off + 2, none⟩ = some (.int .i64 ((zah l0 t284).f1.f1)) ∧ w'.cell? ⟨(ad280.add ((t284).toNat * 14)).block, (ad280.add ((t284).toNat * 14)).off + 3, none⟩ = some (.string ((zah l0 t284).f1.f2)) ∧ w'.cell? ⟨(ad280.add ((t284).toNat * 14)).block, (ad280.add ((t284).toNat * 14)).off + 4, none⟩ = some (.int .i64 ((zah l0 t284).f2)) ∧ w'.cell? ⟨(ad280.add ((t284).toNat * 14)).block, (ad280.add ((t284).toNat * 14)).off + 5, none⟩ = some (.int .i64 ((zah l0 t284).f3)) ∧ w'.cell? ⟨(ad280.add ((t284).toNat * 14)).block, (ad280.add ((t284).toNat * 14)).off + 6, none⟩ = some (.int .i64 ((zah l0 t284).f4.f0)) ∧ w'.cell? ⟨(ad280.add ((t284).toNat * 14)).block, (ad280.add ((t284).toNat * 14)).off + 7, none⟩ = some (.int .i64 ((zah l0 t284).f4.f1)) ∧ w'.cell? ⟨(ad280.add ((t284).toNat * 14)).block, (ad280.add ((t284).toNat * 14)).off + 8, none⟩ = some (.string ((zah l0 t284).f4.f2)) ∧ w'.cell? ⟨(ad280.add ((t284).toNat * 14)).block, (ad280.add ((t284).toNat * 14)).off + 9, none⟩ = some (.int .i64 ((zah l0 t284).f5)) ∧ w'.cell? ⟨(ad280.add ((t284).toNat * 14)).block, (ad280.add ((t284).toNat * 14)).off + 10, none⟩ = some (.slice A287_10 ((zah l0 t284).f6).length c287_10) ∧ w'.cell? ⟨(ad280.add ((t284).toNat * 14)).block, (ad280.add ((t284).toNat * 14)).off + 11, none⟩ = some (.slice A287_11 ((zah l0 t284).f7).length c287_11) ∧ w'.cell? ⟨(ad280.add ((t284).toNat * 14)).block, (ad280.add ((t284).toNat * 14)).off + 12, none⟩ = some (.bool ((zah l0 t284).f8)) ∧ w'.cell? ⟨(ad280.add ((t284).toNat * 14)).block, (ad280.add ((t284).toNat * 14)).off + 13, none⟩ = some (.string ((zah l0 t284).f9)) ∧ w'.cell? (ad280.add ((t284).toNat * 14)) = some (.int .i64 ((zah l0 t284).f0)) ∧ w'.cell? ⟨(ad280.add ((t284).toNat * 14)).block, (ad280.add ((t284).toNat * 14)).off + 1, none⟩ = some (.int .i64 ((zah l0 t284).f1.f0)) ∧ w'.cell? ⟨(ad280.add ((t284).toNat * 14)).block, (ad280.add ((t284).toNat * 14)).off + 2, none⟩ = some (.int .i64 ((zah l0 t284).f1.f1)) ∧ w'.cell? ⟨(ad280.add ((t284).toNat * 14)).block, (ad280.add ((t284).toNat * 14)).off + 3, none⟩ = some (.string ((zah l0 t284).f1.f2)) ∧ w'.cell? ⟨(ad280.add ((t284).toNat * 14)).block, (ad280.add ((t284).toNat * 14)).off + 4, none⟩ = some (.int .i64 ((zah l0 t284).f2)) ∧ w'.cell? ⟨(ad280.add ((t284).toNat * 14)).block, (ad280.add ((t284).toNat * 14)).off + 5, none⟩ = some (.int .i64 ((zah l0 t284).f3)) ∧ w'.cell? ⟨(ad280.add ((t284).toNat * 14)).block, (ad280.add ((t284).toNat * 14)).off + 6, none⟩ = some (.int .i64 ((zah l0 t284).f4.f0)) ∧ w'.cell? ⟨(ad280.add ((t284).toNat * 14)).block, (ad280.add ((t284).toNat * 14)).off + 7, none⟩ = some (.int .i64 ((zah l0 t284).f4.f1)) ∧ w'.cell? ⟨(ad280.add ((t284).toNat * 14)).block, (ad280.add ((t284).toNat * 14)).off + 8, none⟩ = some (.string ((zah l0 t284).f4.f2)) ∧ w'.cell? ⟨(ad280.add ((t284).toNat * 14)).block, (ad280.add ((t284).toNat * 14)).off + 9, none⟩ = some (.int .i64 ((zah l0 t284).f5)) ∧ w'.cell? ⟨(ad280.add ((t284).toNat * 14)).block, (ad280.add ((t284).toNat * 14)).off + 10, none⟩ = some (.slice A287_10 ((zah l0 t284).f6).length c287_10) ∧ w'.cell? ⟨(ad280.add ((t284).toNat * 14)).block, (ad280.add ((t284).toNat * 14)).off + 11, none⟩ = some (.slice A287_11 ((zah l0 t284).f7).length c287_11) ∧ w'.cell? ⟨(ad280.add ((t284).toNat * 14)).block, (ad280.add ((t284).toNat * 14)).off + 12, none⟩ = some (.bool ((zah l0 t284).f8)) ∧ w'.cell? ⟨(ad280.add ((t284).toNat * 14)).block, (ad280.add ((t284).toNat * 14)).off + 13, none⟩ = some (.string ((zah l0 t284).f9))) (ds := []) #[false, false, false, false, false, false, false, false, false, false, false, false, false, false, false, false, false, false] (by kernel_rfl) rfl rfl ⟨(zaf BK281.out 0).trans rfl, (zaf BK281.out 1).trans rfl, (zaf BK281.out 2).trans rfl, (zaf BK281.out 3).trans rfl, (zaf BK281.out 4).trans rfl, (zaf BK281.out 5).trans rfl, (zaf BK281.out 6).trans rfl, (zaf BK281.out 7).trans rfl, (zaf BK281.out 8).trans rfl, (zaf BK281.out 9).trans rfl, (zaf BK281.out 10).trans rfl, (zaf BK281.out 11).trans rfl, (zaf BK281.out 12).trans rfl, (zaf BK281.out 13).trans rfl, (zab HB.out hw287_0), (zab HB.out hw287_1), (zab HB.out hw287_2), (zab HB.out hw287_3), (zab HB.out hw287_4), (zab HB.out hw287_5), (zab HB.out hw287_6), (zab HB.out hw287_7), (zab HB.out hw287_8), (zab HB.out hw287_9), (zab HB.out hw287_10), (zab HB.out hw287_11), (zab HB.out hw287_12), (zab HB.out hw287_13), (zab HB.out hw288_0), (zab HB.out hw288_1), (zab HB.out hw288_2), (zab HB.out hw288_3), (zab HB.out hw288_4), (zab HB.out hw288_5), (zab HB.out hw288_6), (zab HB.out hw288_7), (zab HB.out hw288_8), (zab HB.out hw288_9), (zab HB.out hw288_10), (zab HB.out hw288_11), (zab HB.out hw288_12), (zab HB.out hw288_13)⟩ (fun hHeld => ?_); refine zci zar.tab18 zar.bits18 (fun HT_ HW_ => ?_)
                  generalize wc.drew = w44 at BK281 HB HR287_10 HR287_11 HR288_10 HR288_11 hx287_0 hx287_1 hx287_10 hx287_11 hx287_12 hx287_13 hx287_2 hx287_3 hx287_4 hx287_5 hx287_6 hx287_7 hx287_8 hx287_9 hx288_0 hx288_1 hx288_10 hx288_11 hx288_12 hx288_13 hx288_2 hx288_3 hx288_4 hx288_5 hx288_6 hx288_7 hx288_8 hx288_9 hHeld ⊢
                  refine pz_ 0 69 ?_ ?_ (bz 18 1) rfl rfl (zay HT_.out (by kernel_rfl)) (fun _ _ _ h => h) (Or.inl ⟨by rfl, ?_⟩) ?_ ?_; rotate_left 2; (intro w'; go_simp; with_reducible rfl); (simp only [zps]; rfl)
                  refine pz_ 1 70 ?_ ?_ (bz 18 3) rfl rfl (zay HT_.out (by kernel_rfl)) (fun _ _ _ h => h) (Or.inl ⟨by rfl, ?_⟩) ?_ ?_; rotate_left 2; (intro w'; go_simp; with_reducible rfl); (simp only [zps]; rfl)
                  refine pz_ 2 71 ?_ ?_ (bz 18 7) rfl rfl (zay HT_.out (by kernel_rfl)) (fun _ _ _ h => h) (Or.inl ⟨by rfl, ?_⟩) ?_ ?_; rotate_left 2; (intro w'; go_simp; with_reducible rfl); (simp only [zps]; rfl)
                  refine pz_ 3 72 ?_ ?_ (bz 18 15) rfl rfl (zay HT_.out (by kernel_rfl)) (fun _ _ _ h => h) (Or.inl ⟨by rfl, ?_⟩) ?_ ?_; rotate_left 2; (intro w'; go_simp; with_reducible rfl); (simp only [zps]; rfl)
                  refine pz_ 5 74 ?_ ?_ (bz 18 47) rfl rfl (zay HT_.out (by kernel_rfl)) (fun _ _ _ h => h) (Or.inl ⟨by rfl, ?_⟩) ?_ ?_; rotate_left 2; (intro w'; go_simp; with_reducible rfl); (simp only [zps]; rfl)
                  refine pz_ 6 75 ?_ ?_ (bz 18 111) rfl rfl (zay HT_.out (by kernel_rfl)) (fun _ _ _ h => h) (Or.inl ⟨by rfl, ?_⟩) ?_ ?_; rotate_left 2; (intro w'; go_simp; with_reducible rfl); (simp only [zps]; rfl)
                  refine pz_ 7 76 ?_ ?_ (bz 18 239) rfl rfl (zay HT_.out (by kernel_rfl)) (fun _ _ _ h => h) (Or.inl ⟨by rfl, ?_⟩) ?_ ?_; rotate_left 2; (intro w'; go_simp; with_reducible rfl); (simp only [zps]; rfl)
                  refine pz_ 8 77 ?_ ?_ (bz 18 495) rfl rfl (zay HT_.out (by kernel_rfl)) (fun _ _ _ h => h) (Or.inl ⟨by rfl, ?_⟩) ?_ ?_; rotate_left 2; (intro w'; go_simp; with_reducible rfl); (simp only [zps]; rfl)
                  refine pz_ 10 79 ?_ ?_ (bz 18 1519) rfl rfl (zay HT_.out (by kernel_rfl)) (fun _ _ _ h => h) (Or.inl ⟨by rfl, ?_⟩) ?_ ?_; rotate_left 2; (intro w'; go_simp; with_reducible rfl); (simp only [zps]; rfl)
                  refine tz_ 4 73 ?_ ?_ (bz 18 1535) rfl rfl (zbt HT_.out HW_.out (by kernel_rfl)) (fun _ _ _ h => h) (Or.inl ⟨by rfl, ?_⟩) hHeld ?_ ?_; rotate_left 2; (rintro w' ⟨s0, s1, s2, s3, s4, s5, s6, s7, s8, s9, s10, s11, s12, s13, s14, s15, s16, s17, s18, s19, s20, s21, s22, s23, s24, s25, s26, s27, s28, s29, s30, s31, s32, s33, s34, s35, s36, s37, s38, s39, s40, s41⟩; go_simp; with_reducible rfl); (simp only [zps]; rfl)
                  refine tz_ 9 78 ?_ ?_ (bz 18 2047) rfl rfl (zbt HT_.out HW_.out (by kernel_rfl)) (fun _ _ _ h => h) (Or.inl ⟨by rfl, ?_⟩) hHeld ?_ ?_; rotate_left 2; (rintro w' ⟨s0, s1, s2, s3, s4, s5, s6, s7, s8, s9, s10, s11, s12, s13, s14, s15, s16, s17, s18, s19, s20, s21, s22, s23, s24, s25, s26, s27, s28, s29, s30, s31, s32, s33, s34, s35, s36, s37, s38, s39, s40, s41⟩; go_simp; with_reducible rfl); (simp only [zps]; rfl)
                  refine tz_ 11 80 ?_ ?_ (bz 18 4095) rfl rfl (zbt HT_.out HW_.out (by kernel_rfl)) (fun _ _ _ h => h) (Or.inl ⟨by rfl, ?_⟩) hHeld ?_ ?_; rotate_left 2; (rintro w' ⟨s0, s1, s2, s3, s4, s5, s6, s7, s8, s9, s10, s11, s12, s13, s14, s15, s16, s17, s18, s19, s20, s21, s22, s23, s24, s25, s26, s27, s28, s29, s30, s31, s32, s33, s34, s35, s36, s37, s38, s39, s40, s41⟩; go_simp; with_reducible rfl); (simp only [zps]; rfl)
                  refine one_ (i := 12) (N := some 81) (bz 18 8191) rfl rfl (one_of HT_.out (by kernel_rfl)) (by decide) (fun K hK => ?_)
                  refine goes_ Tryd.func31 (by kernel_rfl) rfl #[.int .i64 ((zah l0 t284).f3), .int .i64 ((zah l0 t284).f5), .slice A280_11 ((zah l0 a1).f7).length c280_11] (by rfl) rfl rfl (by (try simp only [List.map_toArray, List.map_cons, List.map_nil]); first | done | rfl | (simp only [List.length_drop, List.length_take]; rfl)) ?_
                  with_reducible refine (zat.calls kj23 ((zah l0 t284).f3) ((zah l0 t284).f5) _ _ ((zah l0 a1).f7) t289 false _ ?side1 ?side2 A38.out).mono ?_
                  (case side1 => repeat (first | exact (Kd.zbk HR280_11.out HB.out) | (with_reducible refine Kd.zbx ?_ _) | (with_reducible refine Kd.C_drewN ?_ _) | (with_reducible refine Kd.C_drew ?_)))
                  (case side2 => exact HC280_11.out)
                  rintro e w45 ⟨v291, rfl, ho0, hb⟩
                  refine ⟨_, rfl, ?_⟩
                  have n0_ := zae.mk (Kd.zcd ho0 (zav (by repeat with_reducible first | exact HB.out | apply zad | apply zaa | apply zac | refine zag ?_ GE281.out)))
                  have n1_ := zae.mk (zau (g := gb281) (o := .cells #[.int .i64 ((zah l0 a1).f0), .int .i64 ((zah l0 a1).f1.f0), .int .i64 ((zah l0 a1).f1.f1), .string ((zah l0 a1).f1.f2), .int .i64 ((zah l0 a1).f2), .int .i64 ((zah l0 a1).f3), .int .i64 ((zah l0 a1).f4.f0), .int .i64 ((zah l0 a1).f4.f1), .string ((zah l0 a1).f4.f2), .int .i64 ((zah l0 a1).f5), .slice A280_10 ((zah l0 a1).f6).length c280_10, .slice A280_11 ((zah l0 a1).f7).length c280_11, .bool ((zah l0 a1).f8), .string ((zah l0 a1).f9)] 47 (0, 0)) (by (with_reducible repeat (first | refine zai ?_ _ | refine zak ?_ | refine zaj ?_ _)); exact BK281.out) hb)
                  have n2_ := zae.mk (zaq (by repeat with_reducible first | exact HB.out | apply zad | apply zaa | apply zac | refine zag ?_ GE281.out) hb)
                  clear BK281
                  clear HB
                  have HO292 := n0_
                  have BK281 := n1_
                  have HB := n2_
                  clear n0_ n1_ n2_
                  try clear hb
                  try clear hb2
                  try clear hk
                  try clear hi
                  try clear ho0
                  refine hK.out _ _ ⟨(zaf BK281.out 0).trans rfl, (zaf BK281.out 1).trans rfl, (zaf BK281.out 2).trans rfl, (zaf BK281.out 3).trans rfl, (zaf BK281.out 4).trans rfl, (zaf BK281.out 5).trans rfl, (zaf BK281.out 6).trans rfl, (zaf BK281.out 7).trans rfl, (zaf BK281.out 8).trans rfl, (zaf BK281.out 9).trans rfl, (zaf BK281.out 10).trans rfl, (zaf BK281.out 11).trans rfl, (zaf BK281.out 12).trans rfl, (zaf BK281.out 13).trans rfl, (zab HB.out hw287_0), (zab HB.out hw287_1), (zab HB.out hw287_2), (zab HB.out hw287_3), (zab HB.out hw287_4), (zab HB.out hw287_5), (zab HB.out hw287_6), (zab HB.out hw287_7), (zab HB.out hw287_8), (zab HB.out hw287_9), (zab HB.out hw287_10), (zab HB.out hw287_11), (zab HB.out hw287_12), (zab HB.out hw287_13), (zab HB.out hw288_0), (zab HB.out hw288_1), (zab HB.out hw288_2), (zab HB.out hw288_3), (zab HB.out hw288_4), (zab HB.out hw288_5), (zab HB.out hw288_6), (zab HB.out hw288_7), (zab HB.out hw288_8), (zab HB.out hw288_9), (zab HB.out hw288_10), (zab HB.out hw288_11), (zab HB.out hw288_12), (zab HB.out hw288_13)⟩ (fun hHeld => ?_)
                  clear hK K
                  refine norm_ (a' := ?_) ?_ ?_
                  rotate_left
                  ·show Act.put _ (some 81) _ = _
                   simp only [zps]
                   rfl
                  refine pz_ 13 68 ?_ ?_ (bz 18 16383) rfl rfl (zay HT_.out (by kernel_rfl)) (fun _ _ _ h => h) (Or.inl ⟨by rfl, ?_⟩) ?_ ?_; rotate_left 2; (intro w'; go_simp; with_reducible rfl); (simp only [zps]; rfl)
                  refine pz_ 14 82 ?_ ?_ (bz 18 32767) rfl rfl (zay HT_.out (by kernel_rfl)) (fun _ _ _ h => h) (Or.inl ⟨by rfl, ?_⟩) ?_ ?_; rotate_left 2; (intro w'; go_simp; with_reducible rfl); (simp only [zps]; rfl)
                  refine pz_ 15 83 ?_ ?_ (bz 18 65535) rfl rfl (zay HT_.out (by kernel_rfl)) (fun _ _ _ h => h) (Or.inl ⟨by rfl, ?_⟩) ?_ ?_; rotate_left 2; (intro w'; go_simp; with_reducible rfl); (simp only [zps]; rfl)
                  refine pz_ 16 9 ?_ ?_ (bz 18 131071) rfl rfl (zay HT_.out (by kernel_rfl)) (fun _ _ _ h => h) (Or.inl ⟨by rfl, ?_⟩) ?_ ?_; rotate_left 2; (intro w'; go_simp; with_reducible rfl); (simp only [zps]; rfl)
                  refine pz_ 17 10 ?_ ?_ (bz 18 262143) rfl rfl (zay HT_.out (by kernel_rfl)) (fun _ _ _ h => h) (Or.inl ⟨by rfl, ?_⟩) ?_ ?_; rotate_left 2; (intro w'; go_simp; with_reducible rfl); (simp only [zps]; rfl)
                  refine done_ (zcv HT_.out (by kernel_rfl)) ?_
                  try go_wp2
                  go_ret
                  exact ⟨by first | rfl | (simp [zam, zal] <;> rfl) | (simp [*, zam, zal] <;> rfl), by repeat with_reducible first | exact HB.out | apply zad | apply zaa | apply zac | refine zag ?_ GE281.out⟩
                ·rw [if_neg c37] at H
                 exact absurd H (by simp)
               ·rw [if_neg c36] at H
                exact absurd H (by simp)
              ·rw [if_neg c35] at H
               have c35b0 : (((zah l0 a1).f2) == 2) = false := beq_eq_false_iff_ne.mpr c35
               have c35b1 : (((zah l0 a1).f2) != 2) = true := bne_iff_ne.mpr c35
               obtain rfl := Option.some.inj H
               obtain ⟨d46_0, d46_1, d46_2, d46_3, d46_4, d46_5, d46_6, d46_7, d46_8, d46_9, d46_10, d46_11, d46_12, d46_13⟩ := cq14 BK281.out
               obtain ⟨e46_0, e46_1, e46_2, e46_3, e46_4, e46_5, e46_6, e46_7, e46_8, e46_9, e46_10, e46_11, e46_12, e46_13⟩ := fq14 BK281.out
               go_wp2
               go_ret
               exact ⟨by first | rfl | (simp [zam, zal] <;> rfl) | (simp [*, zam, zal] <;> rfl), by repeat with_reducible first | exact HB.out | apply zad | apply zaa | apply zac | refine zag ?_ GE281.out⟩
             ·replace c34 := Bool.eq_false_iff.mpr c34
              subst c34
              have H1 : (some 4) = some r := by rw [if_neg (show ¬ (false = true) by decide)] at H; exact H
              clear H
              have H := H1
              clear H1
              obtain rfl := Option.some.inj H
              obtain ⟨d47_0, d47_1, d47_2, d47_3, d47_4, d47_5, d47_6, d47_7, d47_8, d47_9, d47_10, d47_11, d47_12, d47_13⟩ := cq14 BK281.out
              obtain ⟨e47_0, e47_1, e47_2, e47_3, e47_4, e47_5, e47_6, e47_7, e47_8, e47_9, e47_10, e47_11, e47_12, e47_13⟩ := fq14 BK281.out
              go_wp2
              go_ret
              exact ⟨by first | rfl | (simp [zam, zal] <;> rfl) | (simp [*, zam, zal] <;> rfl), by repeat with_reducible first | exact HB.out | apply zad | apply zaa | apply zac | refine zag ?_ GE281.out⟩
    ·replace c7 := Bool.eq_false_iff.mpr c7
     subst c7
     have H1 : (some 2) = some r := by rw [if_neg (show ¬ (false = true) by decide)] at H; exact H
     clear H
     have H := H1
     clear H1
     obtain rfl := Option.some.inj H
     have p280 : 0 ≤ (a1 : Int) := of_decide_eq_true (by first | (with_reducible assumption) | assumption)
     have q280 : a1 < (l0.length : Int) := of_decide_eq_true (by first | (with_reducible assumption) | assumption)
     obtain ⟨ad280, A280_10, c280_10, A280_11, c280_11, e280, hx280_0, hx280_1, hx280_2, hx280_3, hx280_4, hx280_5, hx280_6, hx280_7, hx280_8, hx280_9, hx280_10, hx280_11, hx280_12, hx280_13, hl280_10, hi280_10, hl280_11, hi280_11⟩ := zcr HR0.out a1 p280 q280
     cases e280
     have HR280_10 := zae.mk hi280_10
     have HC280_10 := zae.mk hl280_10
     clear hi280_10 hl280_10
     have HR280_11 := zae.mk hi280_11
     have HC280_11 := zae.mk hl280_11
     clear hi280_11 hl280_11
     replace p280 := eq_true p280
     replace q280 := eq_true q280
     go_enter Tryd.func21, Tryd.ntmps21
     go_wp2_with (first | ((with_reducible refine za8 (N := 5) rfl ?_); refine za7 ?hg (N := 5) ?hd (cs := #[.int .i64 0, .int .i64 0, .int .i64 0, .string (⟨#[]⟩ : ByteArray), .int .i64 0, .int .i64 0, .int .i64 0, .int .i64 0, .string (⟨#[]⟩ : ByteArray), .int .i64 0, .slice none 0 0, .slice none 0 0, .bool false, .string (⟨#[]⟩ : ByteArray)]) (t := 47) ?hr ?_; (case hd => rfl); (case hg => rfl); (case hr => first | (go_simp; done) | (go_simp; rfl)); intro gb281 hg w48 hbox hb; have n0_ := zae.mk (zaq (by repeat with_reducible first | exact HB.out | apply zad | apply zaa | apply zac) hb); have n1_ := zae.mk (hbox); have n2_ := zae.mk ((by rw [hg]; exact (zav (by repeat with_reducible first | exact HB.out | apply zad | apply zaa | apply zac)) : w.heap.size ≤ gb281)); have n3_ := n2_; clear HB; have HB := n0_; have BK281 := n1_; have GW281 := n2_; have GE281 := n3_; clear n0_ n1_ n2_ n3_; clear hb hbox hg; obtain ⟨d49_0, d49_1, d49_2, d49_3, d49_4, d49_5, d49_6, d49_7, d49_8, d49_9, d49_10, d49_11, d49_12, d49_13⟩ := cq14 BK281.out; obtain ⟨e49_0, e49_1, e49_2, e49_3, e49_4, e49_5, e49_6, e49_7, e49_8, e49_9, e49_10, e49_11, e49_12, e49_13⟩ := fq14 BK281.out) | ((with_reducible refine za3 (f := 29) rfl ?_); refine zbv (some 18) rfl rfl Tryd.func29 (by kernel_rfl) rfl #[.agg #[.int .i64 ((zah l0 a1).f0), .int .i64 ((zah l0 a1).f1.f0), .int .i64 ((zah l0 a1).f1.f1), .string ((zah l0 a1).f1.f2), .int .i64 ((zah l0 a1).f2), .int .i64 ((zah l0 a1).f3), .int .i64 ((zah l0 a1).f4.f0), .int .i64 ((zah l0 a1).f4.f1), .string ((zah l0 a1).f4.f2), .int .i64 ((zah l0 a1).f5), .slice A280_10 ((zah l0 a1).f6).length c280_10, .slice A280_11 ((zah l0 a1).f7).length c280_11, .bool ((zah l0 a1).f8), .string ((zah l0 a1).f9)]] rfl (by (try simp only [List.map_toArray, List.map_cons, List.map_nil]); first | done | rfl | (simp only [List.length_drop, List.length_take]; rfl)) ?_; (with_reducible refine (zao.calls k ((zah l0 a1).f0) ((zah l0 a1).f1.f0) ((zah l0 a1).f1.f1) ((zah l0 a1).f1.f2) ((zah l0 a1).f2) ((zah l0 a1).f3) ((zah l0 a1).f4.f0) ((zah l0 a1).f4.f1) ((zah l0 a1).f4.f2) ((zah l0 a1).f5) _ _ ((zah l0 a1).f6) _ _ ((zah l0 a1).f7) ((zah l0 a1).f8) ((zah l0 a1).f9) false _ ?side1 ?side2 ?side3 ?side4 A6.out).mono ?_); (case side1 => exact Kd.zbk HR280_10.out (by repeat with_reducible first | exact HB.out | apply zad | apply zaa | apply zac | refine zag ?_ GE281.out)); (case side2 => exact HC280_10.out); (case side3 => exact Kd.zbk HR280_11.out (by repeat with_reducible first | exact HB.out | apply zad | apply zaa | apply zac | refine zag ?_ GE281.out)); (case side4 => exact HC280_11.out); rintro e w50 ⟨rfl, hb⟩; refine ⟨_, rfl, ?_⟩; have n0_ := zae.mk (zau (g := gb281) (o := .cells #[.int .i64 ((zah l0 a1).f0), .int .i64 ((zah l0 a1).f1.f0), .int .i64 ((zah l0 a1).f1.f1), .string ((zah l0 a1).f1.f2), .int .i64 ((zah l0 a1).f2), .int .i64 ((zah l0 a1).f3), .int .i64 ((zah l0 a1).f4.f0), .int .i64 ((zah l0 a1).f4.f1), .string ((zah l0 a1).f4.f2), .int .i64 ((zah l0 a1).f5), .slice A280_10 ((zah l0 a1).f6).length c280_10, .slice A280_11 ((zah l0 a1).f7).length c280_11, .bool ((zah l0 a1).f8), .string ((zah l0 a1).f9)] 47 (0, 0)) (by (with_reducible repeat (first | refine zai ?_ _ | refine zak ?_ | refine zaj ?_ _)); refine pq14 (.int .i64 0) (.int .i64 0) (.int .i64 0) (.string (⟨#[]⟩ : ByteArray)) (.int .i64 0) (.int .i64 0) (.int .i64 0) (.int .i64 0) (.string (⟨#[]⟩ : ByteArray)) (.int .i64 0) (.slice none 0 0) (.slice none 0 0) (.bool false) (.string (⟨#[]⟩ : ByteArray)) ?_; (with_reducible repeat (first | refine zai ?_ _ | refine zak ?_ | refine zaj ?_ _)); exact BK281.out) hb); have n1_ := zae.mk (zaq (by repeat with_reducible first | exact HB.out | apply zad | apply zaa | apply zac | refine zag ?_ GE281.out) hb); clear BK281; clear HB; have BK281 := n0_; have HB := n1_; clear n0_ n1_; (try clear hb); (try clear hb2); (try clear hk); (try clear hi)))
     go_ret
     exact ⟨by first | rfl | (simp [zam, zal] <;> rfl) | (simp [*, zam, zal] <;> rfl), by repeat with_reducible first | exact HB.out | apply zad | apply zaa | apply zac | refine zag ?_ GE281.out⟩
   ·rw [if_neg c5] at H
    exact absurd H (by simp)
  ·rw [if_neg c4] at H
   exact absurd H (by simp)
end Go.Proofs.YtikmmigfdchcpaaDoor.PP
