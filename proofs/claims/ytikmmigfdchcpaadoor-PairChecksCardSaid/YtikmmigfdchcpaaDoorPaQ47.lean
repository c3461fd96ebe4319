/-
  Proved: a part of the proof of the claim's statement (text Q47 of it).
  Conditions: none of ours.
-/
import Derived.Test.YtikmmigfdchcpaaDoorPaQ0
import Derived.Test.YtikmmigfdchcpaaDoorPaQ44
import Derived.Test.YtikmmigfdchcpaaDoorPaQ45
import Derived.Test.YtikmmigfdchcpaaDoorPaQ46
namespace Go.Proofs.YtikmmigfdchcpaaDoor.PP
open Go.RowKit Go.Proofs.YtikmmigfdchcpaaDoorW.PrintWords Go.Proofs.YtikmmigfdchcpaaDoorW.PrintLast Go.Proofs.YtikmmigfdchcpaaDoorW.PrintMore
set_option linter.unusedVariables false
set_option linter.unusedSimpArgs false
/-! ### zao: function 21 -/
mutual
def zao.j0 : Nat → List (S47) → Int → Bool → Int → Int → Int → ByteArray → Int → Int → Int → Int → ByteArray → Int → List (S38) → List (S38) → Bool → ByteArray → Option (Int)
 | 0, _, _, _, _, _, _, _, _, _, _, _, _, _, _, _, _, _ => none
 | k + 1, x0, x1, x32, x282000, x282001, x282002, x282003, x282004, x282005, x282006, x282007, x282008, x282009, x282010, x282011, x282012, x282013 => if x32 = true then (some 4) else ((zbd.f k x0 x1).bind fun t284 => (if t284 ≥ 0 then (if 0 ≤ t284 then (if t284 < (x0.length : Int) then (zao.j1 k x0 t284 (((zag x0 t284).f2) == 1) x282000 x282001 x282002 x282003 x282004 x282005 x282006 x282007 x282008 x282009 x282010 x282011 x282012 x282013) else (none)) else (none)) else (zao.j1 k x0 t284 false x282000 x282001 x282002 x282003 x282004 x282005 x282006 x282007 x282008 x282009 x282010 x282011 x282012 x282013)))
def zao.j1 : Nat → List (S47) → Int → Bool → Int → Int → Int → ByteArray → Int → Int → Int → Int → ByteArray → Int → List (S38) → List (S38) → Bool → ByteArray → Option (Int)
 | 0, _, _, _, _, _, _, _, _, _, _, _, _, _, _, _, _, _ => none
 | k + 1, x0, x6, x7, x282000, x282001, x282002, x282003, x282004, x282005, x282006, x282007, x282008, x282009, x282010, x282011, x282012, x282013 => if x6 ≥ 0 then (if 0 ≤ x6 then (if x6 < (x0.length : Int) then (zao.j2 k x0 x6 x7 (((zag x0 x6).f2) == 4) x282000 x282001 x282002 x282003 x282004 x282005 x282006 x282007 x282008 x282009 x282010 x282011 x282012 x282013) else (none)) else (none)) else (zao.j2 k x0 x6 x7 false x282000 x282001 x282002 x282003 x282004 x282005 x282006 x282007 x282008 x282009 x282010 x282011 x282012 x282013)
def zao.j2 : Nat → List (S47) → Int → Bool → Bool → Int → Int → Int → ByteArray → Int → Int → Int → Int → ByteArray → Int → List (S38) → List (S38) → Bool → ByteArray → Option (Int)
 | 0, _, _, _, _, _, _, _, _, _, _, _, _, _, _, _, _, _, _ => none
 | k + 1, x0, x6, x7, x8, x282000, x282001, x282002, x282003, x282004, x282005, x282006, x282007, x282008, x282009, x282010, x282011, x282012, x282013 => if x282004 = 1 then (if x7 = true then (some 4) else (if x8 = true then (some 4) else (some 0))) else (if x7 = true then (if x282004 = 2 then (if 0 ≤ x6 then (if x6 < (x0.length : Int) then ((zat.f k ((zag x0 x6).f3) ((zag x0 x6).f5) x282011).bind fun bt289 => (if bt289.2 = true then (some 0) else (some 4))) else (none)) else (none)) else (some 0)) else (some 4))
end
def zao.f (k : Nat) (l0 : List (S47)) (a1 : Int) : Option (Int) := if a1 ≥ 4096 then (some 5) else (if 0 ≤ a1 then (if a1 < (l0.length : Int) then ((zan.f k ((zag l0 a1).f0) ((zag l0 a1).f1.f0) ((zag l0 a1).f1.f1) ((zag l0 a1).f1.f2) ((zag l0 a1).f2) ((zag l0 a1).f3) ((zag l0 a1).f4.f0) ((zag l0 a1).f4.f1) ((zag l0 a1).f4.f2) ((zag l0 a1).f5) ((zag l0 a1).f6) ((zag l0 a1).f7) ((zag l0 a1).f8) ((zag l0 a1).f9)).bind fun t282 => (if t282 = true then (if a1 > 0 then (if 0 ≤ (wrap64 (a1 - 1)) then (if (wrap64 (a1 - 1)) < (l0.length : Int) then (zao.j0 k l0 a1 (decide (((zag l0 a1).f0) < ((zag l0 (wrap64 (a1 - 1))).f0))) ((zag l0 a1).f0) ((zag l0 a1).f1.f0) ((zag l0 a1).f1.f1) ((zag l0 a1).f1.f2) ((zag l0 a1).f2) ((zag l0 a1).f3) ((zag l0 a1).f4.f0) ((zag l0 a1).f4.f1) ((zag l0 a1).f4.f2) ((zag l0 a1).f5) ((zag l0 a1).f6) ((zag l0 a1).f7) ((zag l0 a1).f8) ((zag l0 a1).f9)) else (none)) else (none)) else (zao.j0 k l0 a1 false ((zag l0 a1).f0) ((zag l0 a1).f1.f0) ((zag l0 a1).f1.f1) ((zag l0 a1).f1.f2) ((zag l0 a1).f2) ((zag l0 a1).f3) ((zag l0 a1).f4.f0) ((zag l0 a1).f4.f1) ((zag l0 a1).f4.f2) ((zag l0 a1).f5) ((zag l0 a1).f6) ((zag l0 a1).f7) ((zag l0 a1).f8) ((zag l0 a1).f9))) else (some 2))) else (none)) else (none))
def zao.T6 : Bool × List (List Nat × List Nat) := (true, [([], []), ([0], [0]), ([1], [1]), ([2], [2]), ([3, 2], [2, 3]), ([2], [2]), ([2], [2]), ([6, 2], [2, 6]), ([5, 7, 2], [2, 5, 7]), ([8, 2], [2, 8]), ([9, 2], [2, 9]), ([4, 10, 2], [2, 4, 10]), ([2, 11], [2, 11])])
def zao.B6 : List Nat := [0, 1, 3, 7, 15, 7, 7, 71, 231, 487, 999, 2047, 4095]
theorem zao.tab6 : rtab .any (opsOf Tryd.f21 6) = zao.T6 := by kernel_rfl
theorem zao.bits6 : waitsOk zao.T6.2 zao.B6 = true := by kernel_rfl
def zao.T18 : Bool × List (List Nat × List Nat) := (true, [([], []), ([], []), ([0, 1], [0, 1]), ([2], [2]), ([3], [3]), ([], []), ([], []), ([5, 6], [5, 6]), ([7], [7]), ([8], [8]), ([], []), ([10], [10]), ([4, 9, 11], [4, 9, 11]), ([12], [12]), ([13], [13]), ([13], [13]), ([14, 12, 0, 1, 2, 3, 4, 5, 6, 7, 8, 9, 10, 11, 12, 13, 14], [14]), ([15, 16, 0, 1, 2, 3, 4, 5, 6, 7, 8, 9, 10, 11, 12, 13, 14, 15, 16], [15])])
def zao.B18 : List Nat := [0, 0, 3, 7, 15, 0, 0, 96, 224, 480, 0, 1024, 4095, 8191, 16383, 16383, 32767, 131071]
theorem zao.tab18 : rtab .any (opsOf Tryd.f21 18) = zao.T18 := by kernel_rfl
theorem zao.bits18 : waitsOk zao.T18.2 zao.B18 = true := by kernel_rfl
set_option maxHeartbeats 8000000 in
set_option maxRecDepth 100000 in
theorem zao.calls (k : Nat) (A0 : Option Addr) (c0 : Nat) (l0 : List (S47)) (a1 : Int) (r : Int) (w : World) (hr0 : Kd.C k47 w A0 l0.length l0) (hc0 : l0.length ≤ c0) (h : zao.f k l0 a1 = some r) :
  Calls Tryd.prog 21 #[.slice A0 l0.length c0, .int .i64 a1] w fun e w' => e = .returned (.int .i64 r) ∧ Below w.heap.size w w' := by
 have hu47 := Tryd.underlying47
 have HR0 := zad.mk hr0
 have HC0 := zad.mk hc0
 clear hr0 hc0
 have HB := zad.mk (Below.refl w.heap.size w)
 have H : (if a1 ≥ 4096 then (some 5) else (if 0 ≤ a1 then (if a1 < (l0.length : Int) then ((zan.f k ((zag l0 a1).f0) ((zag l0 a1).f1.f0) ((zag l0 a1).f1.f1) ((zag l0 a1).f1.f2) ((zag l0 a1).f2) ((zag l0 a1).f3) ((zag l0 a1).f4.f0) ((zag l0 a1).f4.f1) ((zag l0 a1).f4.f2) ((zag l0 a1).f5) ((zag l0 a1).f6) ((zag l0 a1).f7) ((zag l0 a1).f8) ((zag l0 a1).f9)).bind fun t282 => (if t282 = true then (if a1 > 0 then (if 0 ≤ (wrap64 (a1 - 1)) then (if (wrap64 (a1 - 1)) < (l0.length : Int) then (zao.j0 k l0 a1 (decide (((zag l0 a1).f0) < ((zag l0 (wrap64 (a1 - 1))).f0))) ((zag l0 a1).f0) ((zag l0 a1).f1.f0) ((zag l0 a1).f1.f1) ((zag l0 a1).f1.f2) ((zag l0 a1).f2) ((zag l0 a1).f3) ((zag l0 a1).f4.f0) ((zag l0 a1).f4.f1) ((zag l0 a1).f4.f2) ((zag l0 a1).f5) ((zag l0 a1).f6) ((zag l0 a1).f7) ((zag l0 a1).f8) ((zag l0 a1).f9)) else (none)) else (none)) else (zao.j0 k l0 a1 false ((zag l0 a1).f0) ((zag l0 a1).f1.f0) ((zag l0 a1).f1.f1) ((zag l0 a1).f1.f2) ((zag l0 a1).f2) ((zag l0 a1).f3) ((zag l0 a1).f4.f0) ((zag l0 a1).f4.f1) ((zag l0 a1).f4.f2) ((zag l0 a1).f5) ((zag l0 a1).f6) ((zag l0 a1).f7) ((zag l0 a1).f8) ((zag l0 a1).f9))) else (some 2))) else (none)) else (none))) = some r := h
 clear h
 by_cases c3 : a1 ≥ 4096
 ·rw [if_pos c3] at H
  have c3b0 : decide (4096 ≤ a1) = true := decide_eq_true c3
  clear c3
  obtain rfl := Option.some.inj H
  go_enter Tryd.func21, Tryd.ntmps21
  go_wp2
  go_ret
  exact ⟨by first | rfl | (simp [zam, zal] <;> rfl) | (simp [*, zam, zal] <;> rfl), by repeat (first | (with_reducible first | exact HB.out | apply zac | apply zaa | apply zab) | exact HB.out)⟩
 ·rw [if_neg c3] at H
  have c3b0 : decide (4096 ≤ a1) = false := decide_eq_false c3
  clear c3
  by_cases c4 : 0 ≤ a1
  ·rw [if_pos c4] at H
   have c4b0 : decide (0 ≤ a1) = true := decide_eq_true c4
   clear c4
   by_cases c5 : a1 < (l0.length : Int)
   ·rw [if_pos c5] at H
    have c5b0 : decide (a1 < (l0.length : Int)) = true := decide_eq_true c5
    clear c5
    replace H := Option.bind_eq_some_iff.mp H
    obtain ⟨t282, A60, H⟩ := H
    replace H : (if t282 = true then (if a1 > 0 then (if 0 ≤ (wrap64 (a1 - 1)) then (if (wrap64 (a1 - 1)) < (l0.length : Int) then (zao.j0 k l0 a1 (decide (((zag l0 a1).f0) < ((zag l0 (wrap64 (a1 - 1))).f0))) ((zag l0 a1).f0) ((zag l0 a1).f1.f0) ((zag l0 a1).f1.f1) ((zag l0 a1).f1.f2) ((zag l0 a1).f2) ((zag l0 a1).f3) ((zag l0 a1).f4.f0) ((zag l0 a1).f4.f1) ((zag l0 a1).f4.f2) ((zag l0 a1).f5) ((zag l0 a1).f6) ((zag l0 a1).f7) ((zag l0 a1).f8) ((zag l0 a1).f9)) else (none)) else (none)) else (zao.j0 k l0 a1 false ((zag l0 a1).f0) ((zag l0 a1).f1.f0) ((zag l0 a1).f1.f1) ((zag l0 a1).f1.f2) ((zag l0 a1).f2) ((zag l0 a1).f3) ((zag l0 a1).f4.f0) ((zag l0 a1).f4.f1) ((zag l0 a1).f4.f2) ((zag l0 a1).f5) ((zag l0 a1).f6) ((zag l0 a1).f7) ((zag l0 a1).f8) ((zag l0 a1).f9))) else (some 2)) = some r := H
    have A6 := zad.mk A60
    clear A60
    by_cases c7 : t282 = true
    ·subst c7
     have H1 : (if a1 > 0 then (if 0 ≤ (wrap64 (a1 - 1)) then (if (wrap64 (a1 - 1)) < (l0.length : Int) then (zao.j0 k l0 a1 (decide (((zag l0 a1).f0) < ((zag l0 (wrap64 (a1 - 1))).f0))) ((zag l0 a1).f0) ((zag l0 a1).f1.f0) ((zag l0 a1).f1.f1) ((zag l0 a1).f1.f2) ((zag l0 a1).f2) ((zag l0 a1).f3) ((zag l0 a1).f4.f0) ((zag l0 a1).f4.f1) ((zag l0 a1).f4.f2) ((zag l0 a1).f5) ((zag l0 a1).f6) ((zag l0 a1).f7) ((zag l0 a1).f8) ((zag l0 a1).f9)) else (none)) else (none)) else (zao.j0 k l0 a1 false ((zag l0 a1).f0) ((zag l0 a1).f1.f0) ((zag l0 a1).f1.f1) ((zag l0 a1).f1.f2) ((zag l0 a1).f2) ((zag l0 a1).f3) ((zag l0 a1).f4.f0) ((zag l0 a1).f4.f1) ((zag l0 a1).f4.f2) ((zag l0 a1).f5) ((zag l0 a1).f6) ((zag l0 a1).f7) ((zag l0 a1).f8) ((zag l0 a1).f9))) = some r := by rw [if_pos rfl] at H; exact H
     clear H
     have H := H1
     clear H1
     have HC8 := zad.mk H
     clear H
     have p280 : 0 ≤ (a1 : Int) := of_decide_eq_true (by first | (with_reducible assumption) | assumption)
     have q280 : a1 < (l0.length : Int) := of_decide_eq_true (by first | (with_reducible assumption) | assumption)
     obtain ⟨ad280, A280_10, c280_10, A280_11, c280_11, e280, hx280_0, hx280_1, hx280_2, hx280_3, hx280_4, hx280_5, hx280_6, hx280_7, hx280_8, hx280_9, hx280_10, hx280_11, hx280_12, hx280_13, hl280_10, hi280_10, hl280_11, hi280_11⟩ := zcv HR0.out a1 p280 q280
     cases e280
     have HR280_10 := zad.mk hi280_10
     have HC280_10 := zad.mk hl280_10
     clear hi280_10 hl280_10
     have HR280_11 := zad.mk hi280_11
     have HC280_11 := zad.mk hl280_11
     clear hi280_11 hl280_11
     replace p280 := eq_true p280
     replace q280 := eq_true q280
     go_enter Tryd.func21, Tryd.ntmps21
     go_upto_region 6 with (first | ((with_reducible refine za7 (N := 5) rfl ?_); refine za8 ?hg (N := 5) ?hd (cs := #[.int .i64 0, .int .i64 0, .int .i64 0, .string (⟨#[]⟩ : ByteArray), .int .i64 0, .int .i64 0, .int .i64 0, .int .i64 0, .string (⟨#[]⟩ : ByteArray), .int .i64 0, .slice none 0 0, .slice none 0 0, .bool false, .string (⟨#[]⟩ : ByteArray)]) (t := 47) ?hr ?_; (case hd => rfl); (case hg => rfl); (case hr => first | (go_simp; done) | (go_simp; rfl)); intro gb281 hg w9 hbox hb; have n0_ := zad.mk (zaq (by repeat (first | (with_reducible first | exact HB.out | apply zac | apply zaa | apply zab) | exact HB.out)) hb); have n1_ := zad.mk (hbox); have n2_ := zad.mk ((by rw [hg]; exact (zas (by repeat (first | (with_reducible first | exact HB.out | apply zac | apply zaa | apply zab) | exact HB.out))) : w.heap.size ≤ gb281)); have n3_ := zad.mk ((by rw [hg]; exact (zas (by repeat (first | (with_reducible first | exact HB.out | apply zac | apply zaa | apply zab) | exact HB.out))) : w.heap.size ≤ gb281)); clear HB; have HB := n0_; have BK281 := n1_; have GW281 := n2_; have GE281 := n3_; clear n0_ n1_ n2_ n3_; clear hb hbox hg; obtain ⟨hcz10_0, hcz10_1, hcz10_2, hcz10_3, hcz10_4, hcz10_5, hcz10_6, hcz10_7, hcz10_8, hcz10_9, hcz10_10, hcz10_11, hcz10_12, hcz10_13⟩ := cq14 BK281.out; obtain ⟨hfz10_0, hfz10_1, hfz10_2, hfz10_3, hfz10_4, hfz10_5, hfz10_6, hfz10_7, hfz10_8, hfz10_9, hfz10_10, hfz10_11, hfz10_12, hfz10_13⟩ := fq14 BK281.out) | ((with_reducible refine za0 (f := 29) rfl ?_); refine zbq (some 18) rfl rfl Tryd.func29 (by kernel_rfl) rfl #[.agg #[.int .i64 ((zag l0 a1).f0), .int .i64 ((zag l0 a1).f1.f0), .int .i64 ((zag l0 a1).f1.f1), .string ((zag l0 a1).f1.f2), .int .i64 ((zag l0 a1).f2), .int .i64 ((zag l0 a1).f3), .int .i64 ((zag l0 a1).f4.f0), .int .i64 ((zag l0 a1).f4.f1), .string ((zag l0 a1).f4.f2), .int .i64 ((zag l0 a1).f5), .slice A280_10 ((zag l0 a1).f6).length c280_10, .slice A280_11 ((zag l0 a1).f7).length c280_11, .bool ((zag l0 a1).f8), .string ((zag l0 a1).f9)]] rfl (by (try simp only [List.map_toArray, List.map_cons, List.map_nil]); first | done | rfl | (simp only [List.length_drop, List.length_take]; rfl)) ?_; (with_reducible refine (zan.calls k ((zag l0 a1).f0) ((zag l0 a1).f1.f0) ((zag l0 a1).f1.f1) ((zag l0 a1).f1.f2) ((zag l0 a1).f2) ((zag l0 a1).f3) ((zag l0 a1).f4.f0) ((zag l0 a1).f4.f1) ((zag l0 a1).f4.f2) ((zag l0 a1).f5) _ _ ((zag l0 a1).f6) _ _ ((zag l0 a1).f7) ((zag l0 a1).f8) ((zag l0 a1).f9) true _ ?side1 ?side2 ?side3 ?side4 A6.out).mono ?_); (case side1 => exact Kd.zbn HR280_10.out (by repeat (first | (with_reducible first | exact HB.out | apply zac | apply zaa | apply zab | refine zaf ?_ GE281.out) | exact HB.out))); (case side2 => exact HC280_10.out); (case side3 => exact Kd.zbn HR280_11.out (by repeat (first | (with_reducible first | exact HB.out | apply zac | apply zaa | apply zab | refine zaf ?_ GE281.out) | exact HB.out))); (case side4 => exact HC280_11.out); rintro e w11 ⟨rfl, hb⟩; refine ⟨_, rfl, ?_⟩; have n0_ := zad.mk (zav (g := gb281) (o := .cells #[.int .i64 ((zag l0 a1).f0), .int .i64 ((zag l0 a1).f1.f0), .int .i64 ((zag l0 a1).f1.f1), .string ((zag l0 a1).f1.f2), .int .i64 ((zag l0 a1).f2), .int .i64 ((zag l0 a1).f3), .int .i64 ((zag l0 a1).f4.f0), .int .i64 ((zag l0 a1).f4.f1), .string ((zag l0 a1).f4.f2), .int .i64 ((zag l0 a1).f5), .slice A280_10 ((zag l0 a1).f6).length c280_10, .slice A280_11 ((zag l0 a1).f7).length c280_11, .bool ((zag l0 a1).f8), .string ((zag l0 a1).f9)] 47 (0, 0)) (by (with_reducible repeat (first | refine zah ?_ _ | refine zaj ?_ | refine zai ?_ _)); refine pq14 (.int .i64 0) (.int .i64 0) (.int .i64 0) (.string (⟨#[]⟩ : ByteArray)) (.int .i64 0) (.int .i64 0) (.int .i64 0) (.int .i64 0) (.string (⟨#[]⟩ : ByteArray)) (.int .i64 0) (.slice none 0 0) (.slice none 0 0) (.bool false) (.string (⟨#[]⟩ : ByteArray)) ?_; (with_reducible repeat (first | refine zah ?_ _ | refine zaj ?_ | refine zai ?_ _)); exact BK281.out) hb); have n1_ := zad.mk (zaq (by repeat (first | (with_reducible first | exact HB.out | apply zac | apply zaa | apply zab | refine zaf ?_ GE281.out) | exact HB.out)) hb); clear BK281; clear HB; have BK281 := n0_; have HB := n1_; clear n0_ n1_; (try clear hb); (try clear hb2); (try clear hk); (try clear hi)))
     (try simp only [Act.put, List.setIfInBounds_toArray, List.set_cons_zero, List.set_cons_succ])
     go_cut [32] (fun v32 wc => ∃ (kq : Nat) (x32_7 : Bool), v32 = .bool x32_7 ∧ zad (zao.j0 kq l0 a1 x32_7 ((zag l0 a1).f0) ((zag l0 a1).f1.f0) ((zag l0 a1).f1.f1) ((zag l0 a1).f1.f2) ((zag l0 a1).f2) ((zag l0 a1).f3) ((zag l0 a1).f4.f0) ((zag l0 a1).f4.f1) ((zag l0 a1).f4.f2) ((zag l0 a1).f5) ((zag l0 a1).f6) ((zag l0 a1).f7) ((zag l0 a1).f8) ((zag l0 a1).f9) = some r) ∧ zad (kq ≤ k) ∧ zad (wc.heap[gb281]? = some (.cells #[.int .i64 ((zag l0 a1).f0), .int .i64 ((zag l0 a1).f1.f0), .int .i64 ((zag l0 a1).f1.f1), .string ((zag l0 a1).f1.f2), .int .i64 ((zag l0 a1).f2), .int .i64 ((zag l0 a1).f3), .int .i64 ((zag l0 a1).f4.f0), .int .i64 ((zag l0 a1).f4.f1), .string ((zag l0 a1).f4.f2), .int .i64 ((zag l0 a1).f5), (.slice A280_10 ((zag l0 a1).f6).length c280_10), (.slice A280_11 ((zag l0 a1).f7).length c280_11), .bool ((zag l0 a1).f8), .string ((zag l0 a1).f9)] 47 (0, 0))) ∧ zad (Below w.heap.size w wc))
     case first =>
      have H := HC8.out
      clear HC8
      by_cases c12 : a1 > 0
      ·rw [if_pos c12] at H
       have c12b0 : decide (0 < a1) = true := decide_eq_true c12
       clear c12
       (first | rw [c12b0] | (simp only [i64_w]; rw [c12b0]) | skip)
       obtain ⟨ji13, hji13⟩ : ∃ j_ : Int, (wrap64 (a1 - 1)) = j_ := ⟨_, rfl⟩
       replace H : (if 0 ≤ (ji13) then (if (ji13) < (l0.length : Int) then (zao.j0 k l0 a1 (decide (((zag l0 a1).f0) < ((zag l0 (ji13)).f0))) ((zag l0 a1).f0) ((zag l0 a1).f1.f0) ((zag l0 a1).f1.f1) ((zag l0 a1).f1.f2) ((zag l0 a1).f2) ((zag l0 a1).f3) ((zag l0 a1).f4.f0) ((zag l0 a1).f4.f1) ((zag l0 a1).f4.f2) ((zag l0 a1).f5) ((zag l0 a1).f6) ((zag l0 a1).f7) ((zag l0 a1).f8) ((zag l0 a1).f9)) else (none)) else (none)) = some r := by first | (rw [hji13] at H; exact H) | (simp only [hji13] at H ⊢; exact H)
       have hji13w : (IntKind.i64.wrap (a1 - 1)) = ji13 := (i64_w _).trans hji13
       by_cases c14 : 0 ≤ (ji13)
       ·rw [if_pos c14] at H
        have c14b0 : decide (0 ≤ (ji13)) = true := decide_eq_true c14
        clear c14
        by_cases c15 : (ji13) < (l0.length : Int)
        ·rw [if_pos c15] at H
         have c15b0 : decide ((ji13) < (l0.length : Int)) = true := decide_eq_true c15
         clear c15
         have H' := zad.mk H
         clear H
         try go_wp2
         have n0_ := zad.mk (zaj BK281.out)
         have n1_ := zad.mk (zab HB.out)
         clear BK281
         clear HB
         have BK281 := n0_
         have HB := n1_
         clear n0_ n1_
         have p283 : 0 ≤ ((ji13) : Int) := of_decide_eq_true (by first | (with_reducible assumption) | assumption)
         have q283 : (ji13) < (l0.length : Int) := of_decide_eq_true (by first | (with_reducible assumption) | assumption)
         obtain ⟨ad283, A283_10, c283_10, A283_11, c283_11, e283, hx283_0, hx283_1, hx283_2, hx283_3, hx283_4, hx283_5, hx283_6, hx283_7, hx283_8, hx283_9, hx283_10, hx283_11, hx283_12, hx283_13, hl283_10, hi283_10, hl283_11, hi283_11⟩ := zcv HR0.out (ji13) p283 q283
         have hw283_13 := hx283_13
         have hw283_12 := hx283_12
         have hw283_11 := hx283_11
         have hw283_10 := hx283_10
         have hw283_9 := hx283_9
         have hw283_8 := hx283_8
         have hw283_7 := hx283_7
         have hw283_6 := hx283_6
         have hw283_5 := hx283_5
         have hw283_4 := hx283_4
         have hw283_3 := hx283_3
         have hw283_2 := hx283_2
         have hw283_1 := hx283_1
         have hw283_0 := hx283_0
         obtain rfl : ad280 = ad283 := (by injection e283)
         replace hx283_0 := (HB.out.cell (World.block_lt_of_cell? w _ hx283_0)).trans hx283_0
         replace hx283_1 := (HB.out.cell (World.block_lt_of_cell? w _ hx283_1)).trans hx283_1
         replace hx283_2 := (HB.out.cell (World.block_lt_of_cell? w _ hx283_2)).trans hx283_2
         replace hx283_3 := (HB.out.cell (World.block_lt_of_cell? w _ hx283_3)).trans hx283_3
         replace hx283_4 := (HB.out.cell (World.block_lt_of_cell? w _ hx283_4)).trans hx283_4
         replace hx283_5 := (HB.out.cell (World.block_lt_of_cell? w _ hx283_5)).trans hx283_5
         replace hx283_6 := (HB.out.cell (World.block_lt_of_cell? w _ hx283_6)).trans hx283_6
         replace hx283_7 := (HB.out.cell (World.block_lt_of_cell? w _ hx283_7)).trans hx283_7
         replace hx283_8 := (HB.out.cell (World.block_lt_of_cell? w _ hx283_8)).trans hx283_8
         replace hx283_9 := (HB.out.cell (World.block_lt_of_cell? w _ hx283_9)).trans hx283_9
         replace hx283_10 := (HB.out.cell (World.block_lt_of_cell? w _ hx283_10)).trans hx283_10
         replace hx283_11 := (HB.out.cell (World.block_lt_of_cell? w _ hx283_11)).trans hx283_11
         replace hx283_12 := (HB.out.cell (World.block_lt_of_cell? w _ hx283_12)).trans hx283_12
         replace hx283_13 := (HB.out.cell (World.block_lt_of_cell? w _ hx283_13)).trans hx283_13
         have HR283_10 := zad.mk hi283_10
         have HC283_10 := zad.mk hl283_10
         clear hi283_10 hl283_10
         have HR283_11 := zad.mk hi283_11
         have HC283_11 := zad.mk hl283_11
         clear hi283_11 hl283_11
         replace p283 := eq_true p283
         replace q283 := eq_true q283
         refine zcl (n := 13) (S := fun w' => w'.cell? ⟨gb281, 0, none⟩ = some (.int .i64 ((zag l0 a1).f0)) ∧ w'.cell? ⟨gb281, 1, none⟩ = some (.int .i64 ((zag l0 a1).f1.f0)) ∧ w'.cell? ⟨gb281, 2, none⟩ = some (.int .i64 ((zag l0 a1).f1.f1)) ∧ w'.cell? ⟨gb281, 3, none⟩ = some (.string ((zag l0 a1).f1.f2)) ∧ w'.cell? ⟨gb281, 4, none⟩ = some (.int .i64 ((zag l0 a1).f2)) ∧ w'.cell? ⟨gb281, 5, none⟩ = some (.int .i64 ((zag l0 a1).f3)) ∧ w'.cell? ⟨gb281, 6, none⟩ = some (.int .i64 ((zag l0 a1).f4.f0)) ∧ w'.cell? ⟨gb281, 7, none⟩ = some (.int .i64 ((zag l0 a1).f4.f1)) ∧ w'.cell? ⟨gb281, 8, none⟩ = some (.string ((zag l0 a1).f4.f2)) ∧ w'.cell? ⟨gb281, 9, none⟩ = some (.int .i64 ((zag l0 a1).f5)) ∧ w'.cell? ⟨gb281, 10, none⟩ = some (.slice A280_10 ((zag l0 a1).f6).length c280_10) ∧ w'.cell? ⟨gb281, 11, none⟩ = some (.slice A280_11 ((zag l0 a1).f7).length c280_11) ∧ w'.cell? ⟨gb281, 12, none⟩ = some (.bool ((zag l0 a1).f8)) ∧ w'.cell? ⟨gb281, 13, none⟩ = some (.string ((zag l0 a1).f9)) ∧ w'.cell? (ad280.add (((ji13)).toNat * 14)) = some (.int .i64 ((zag l0 (ji13)).f0)) ∧ w'.cell? ⟨(ad280.add (((ji13)).toNat * 14)).block, (ad280.add (((ji13)).toNat * 14)).off + 1, none⟩ = some (.int .i64 ((zag l0 (ji13)).f1.f0)) ∧ w'.cell? ⟨(ad280.add (((ji13)).toNat * 14)).block, (ad280.add (((ji13)).toNat * 14)).off + 2, none⟩ = some (.int .i64 ((zag l0 (ji13)).f1.f1)) ∧ w'.cell? ⟨(ad280.add (((ji13)).toNat * 14)).block, (ad280.add (((ji13)).toNat * 14)).off + 3, none⟩ = some (.string ((zag l0 (ji13)).f1.f2)) ∧ w'.cell? ⟨(ad280.add (((ji13)).toNat * 14)).block, (ad280.add (((ji13)).toNat * 14)).off + 4, none⟩ = some (.int .i64 ((zag l0 (ji13)).f2)) ∧ w'.cell? ⟨(ad280.add (((ji13)).toNat * 14)).block, (ad280.add (((ji13)).toNat * 14)).off + 5, none⟩ = some (.int .i64 ((zag l0 (ji13)).f3)) ∧ w'.cell? ⟨(ad280.add (((ji13)).toNat * 14)).block, (ad280.add (((ji13)).toNat * 14)).off + 6, none⟩ = some (.int .i64 ((zag l0 (ji13)).f4.f0)) ∧ w'.cell? ⟨(ad280.add (((ji13)).toNat * 14)).block, (ad280.add (((ji13)).toNat * 14)).off + 7, none⟩ = some (.int .i64 ((zag l0 (ji13)).f4.f1)) ∧ w'.cell? ⟨(ad280.add (((ji13)).toNat * 14)).block, (ad280.add (((ji13)).toNat * 14)).off + 8, none⟩ = some (.string ((zag l0 (ji13)).f4.f2)) ∧ w'.cell? ⟨(ad280.add (((ji13)).toNat * 14)).block, (ad280.add (((ji13)).toNat * 14)).off + 9, none⟩ = some (.int .i64 ((zag l0 (ji13)).f5)) ∧ w'.cell? ⟨(ad280.add (((ji13)).toNat * 14)).block, (ad280.add (((ji13)).toNat * 14)).off + 10, none⟩ = some (.slice A283_10 ((zag l0 (ji13)).f6).length c283_10) ∧ w'.cell? ⟨(ad280.add (((ji13)).toNat * 14)).block, (ad280.add (((ji13)).toNat * 14)).off + 11, none⟩ = some (.slice A283_11 ((zag l0 (ji13)).f7).length c283_11) ∧ w'.cell? ⟨(ad280.add (((ji13)).toNat * 14)).block, (ad280.add (((ji13)).toNat * 14)).off + 12, none⟩ = some (.bool ((zag l0 (ji13)).f8)) ∧ w'.cell? ⟨(ad280.add (((ji13)).toNat * 14)).block, (ad280.add (((ji13)).toNat * 14)).off + 13, none⟩ = some (.string ((zag l0 (ji13)).f9))) (ds := []) #[false, false, false, false, false, false, false, false, false, false, false, false, false] (by kernel_rfl) rfl rfl ⟨(zae BK281.out 0).trans rfl, (zae BK281.out 1).trans rfl, (zae BK281.out 2).trans rfl, (zae BK281.out 3).trans rfl, (zae BK281.out 4).trans rfl, (zae BK281.out 5).trans rfl, (zae BK281.out 6).trans rfl, (zae BK281.out 7).trans rfl, (zae BK281.out 8).trans rfl, (zae BK281.out 9).trans rfl, (zae BK281.out 10).trans rfl, (zae BK281.out 11).trans rfl, (zae BK281.out 12).trans rfl, (zae BK281.out 13).trans rfl, ((HB.out.cell (World.block_lt_of_cell? w _ hw283_0)).trans hw283_0), ((HB.out.cell (World.block_lt_of_cell? w _ hw283_1)).trans hw283_1), ((HB.out.cell (World.block_lt_of_cell? w _ hw283_2)).trans hw283_2), ((HB.out.cell (World.block_lt_of_cell? w _ hw283_3)).trans hw283_3), ((HB.out.cell (World.block_lt_of_cell? w _ hw283_4)).trans hw283_4), ((HB.out.cell (World.block_lt_of_cell? w _ hw283_5)).trans hw283_5), ((HB.out.cell (World.block_lt_of_cell? w _ hw283_6)).trans hw283_6), ((HB.out.cell (World.block_lt_of_cell? w _ hw283_7)).trans hw283_7), ((HB.out.cell (World.block_lt_of_cell? w _ hw283_8)).trans hw283_8), ((HB.out.cell (World.block_lt_of_cell? w _ hw283_9)).trans hw283_9), ((HB.out.cell (World.block_lt_of_cell? w _ hw283_10)).trans hw283_10), ((HB.out.cell (World.block_lt_of_cell? w _ hw283_11)).trans hw283_11), ((HB.out.cell (World.block_lt_of_cell? w _ hw283_12)).trans hw283_12), ((HB.out.cell (World.block_lt_of_cell? w _ hw283_13)).trans hw283_13)⟩ (fun hHeld => ?_); refine zcc zao.tab6 zao.bits6 (fun HT_ HW_ => ?_)
         generalize w11.drew = w16 at BK281 HB HR283_10 HR283_11 hx283_0 hx283_1 hx283_10 hx283_11 hx283_12 hx283_13 hx283_2 hx283_3 hx283_4 hx283_5 hx283_6 hx283_7 hx283_8 hx283_9 hHeld ⊢
         refine pure_ (i := 0) (N := some 20) (v := ?_) (a' := ?_) #[true, false, false, false, false, false, false, false, false, false, false, false, false] rfl rfl (zax HT_.out (by kernel_rfl)) (fun _ _ _ h => h) (Or.inl ⟨by rfl, ?_⟩) ?_ ?_; rotate_left; (intro w'; go_simp; with_reducible rfl); rotate_left; (simp only [Act.put, List.setIfInBounds_toArray, List.set_cons_zero, List.set_cons_succ, i64_w]; rfl)
         refine pure_ (i := 1) (N := some 21) (v := ?_) (a' := ?_) #[true, true, false, false, false, false, false, false, false, false, false, false, false] rfl rfl (zax HT_.out (by kernel_rfl)) (fun _ _ _ h => h) (Or.inl ⟨by rfl, ?_⟩) ?_ ?_; rotate_left; (intro w'; go_simp; with_reducible rfl); rotate_left; (simp only [Act.put, List.setIfInBounds_toArray, List.set_cons_zero, List.set_cons_succ, i64_w]; rfl)
         refine pure_ (i := 2) (N := some 22) (v := ?_) (a' := ?_) #[true, true, true, false, false, false, false, false, false, false, false, false, false] rfl rfl (zax HT_.out (by kernel_rfl)) (fun _ _ _ h => h) (Or.inl ⟨by rfl, ?_⟩) ?_ ?_; rotate_left; (intro w'; go_simp; with_reducible rfl); rotate_left; (simp only [Act.put, List.setIfInBounds_toArray, List.set_cons_zero, List.set_cons_succ, i64_w]; rfl)
         refine pure_ (i := 3) (N := some 23) (v := ?_) (a' := ?_) #[true, true, true, true, false, false, false, false, false, false, false, false, false] rfl rfl (zax HT_.out (by kernel_rfl)) (fun _ _ _ h => h) (Or.inl ⟨by rfl, ?_⟩) ?_ ?_; rotate_left; (intro w'; go_simp; with_reducible rfl); rotate_left; (simp only [Act.put, List.setIfInBounds_toArray, List.set_cons_zero, List.set_cons_succ, i64_w]; rfl)
         refine pure_ (i := 5) (N := some 25) (v := ?_) (a' := ?_) #[true, true, true, true, false, true, false, false, false, false, false, false, false] rfl rfl (zax HT_.out (by kernel_rfl)) (fun _ _ _ h => h) (Or.inl ⟨by rfl, ?_⟩) ?_ ?_; rotate_left; (intro w'; go_simp; with_reducible rfl); rotate_left; (simp only [Act.put, List.setIfInBounds_toArray, List.set_cons_zero, List.set_cons_succ, i64_w]; rfl)
         refine pure_ (i := 6) (N := some 26) (v := ?_) (a' := ?_) #[true, true, true, true, false, true, true, false, false, false, false, false, false] rfl rfl (zax HT_.out (by kernel_rfl)) (fun _ _ _ h => h) (Or.inl ⟨by rfl, ?_⟩) ?_ ?_; rotate_left; (intro w'; go_simp; with_reducible rfl); rotate_left; (simp only [Act.put, List.setIfInBounds_toArray, List.set_cons_zero, List.set_cons_succ, i64_w]; rfl)
         refine pure_ (i := 7) (N := some 27) (v := ?_) (a' := ?_) #[true, true, true, true, false, true, true, true, false, false, false, false, false] rfl rfl (zax HT_.out (by kernel_rfl)) (fun _ _ _ h => h) (Or.inl ⟨by rfl, ?_⟩) ?_ ?_; rotate_left; (intro w'; go_simp; with_reducible rfl); rotate_left; (simp only [Act.put, List.setIfInBounds_toArray, List.set_cons_zero, List.set_cons_succ, i64_w]; rfl)
         refine pure_ (i := 8) (N := some 28) (v := ?_) (a' := ?_) #[true, true, true, true, false, true, true, true, true, false, false, false, false] rfl rfl (zax HT_.out (by kernel_rfl)) (fun _ _ _ h => h) (Or.inl ⟨by rfl, ?_⟩) ?_ ?_; rotate_left; (intro w'; go_simp; with_reducible rfl); rotate_left; (simp only [Act.put, List.setIfInBounds_toArray, List.set_cons_zero, List.set_cons_succ, i64_w]; rfl)
         refine pure_ (i := 9) (N := some 29) (v := ?_) (a' := ?_) #[true, true, true, true, false, true, true, true, true, true, false, false, false] rfl rfl (zax HT_.out (by kernel_rfl)) (fun _ _ _ h => h) (Or.inl ⟨by rfl, ?_⟩) ?_ ?_; rotate_left; (intro w'; go_simp; with_reducible rfl); rotate_left; (simp only [Act.put, List.setIfInBounds_toArray, List.set_cons_zero, List.set_cons_succ, i64_w]; rfl)
         refine take_ (i := 4) (N := some 24) (v := ?_) (a' := ?_) #[true, true, true, true, true, true, true, true, true, true, false, false, false] rfl rfl (zbo HT_.out HW_.out (by kernel_rfl)) (fun _ _ _ h => h) (Or.inl ⟨by rfl, ?_⟩) hHeld ?_ ?_; rotate_left; (rintro w' ⟨s0, s1, s2, s3, s4, s5, s6, s7, s8, s9, s10, s11, s12, s13, s14, s15, s16, s17, s18, s19, s20, s21, s22, s23, s24, s25, s26, s27⟩; go_simp; with_reducible rfl); rotate_left; (simp only [Act.put, List.setIfInBounds_toArray, List.set_cons_zero, List.set_cons_succ, i64_w]; rfl)
         refine take_ (i := 10) (N := some 30) (v := ?_) (a' := ?_) #[true, true, true, true, true, true, true, true, true, true, true, false, false] rfl rfl (zbo HT_.out HW_.out (by kernel_rfl)) (fun _ _ _ h => h) (Or.inl ⟨by rfl, ?_⟩) hHeld ?_ ?_; rotate_left; (rintro w' ⟨s0, s1, s2, s3, s4, s5, s6, s7, s8, s9, s10, s11, s12, s13, s14, s15, s16, s17, s18, s19, s20, s21, s22, s23, s24, s25, s26, s27⟩; go_simp; with_reducible rfl); rotate_left; (simp only [Act.put, List.setIfInBounds_toArray, List.set_cons_zero, List.set_cons_succ, i64_w]; rfl)
         refine pure_ (i := 11) (N := some 31) (v := ?_) (a' := ?_) #[true, true, true, true, true, true, true, true, true, true, true, true, false] rfl rfl (zax HT_.out (by kernel_rfl)) (fun _ _ _ h => h) (Or.inl ⟨by rfl, ?_⟩) ?_ ?_; rotate_left; (intro w'; go_simp; with_reducible rfl); rotate_left; (simp only [Act.put, List.setIfInBounds_toArray, List.set_cons_zero, List.set_cons_succ, i64_w]; rfl)
         refine pure_ (i := 12) (N := some 32) (v := ?_) (a' := ?_) #[true, true, true, true, true, true, true, true, true, true, true, true, true] rfl rfl (zax HT_.out (by kernel_rfl)) (fun _ _ _ h => h) (Or.inl ⟨by rfl, ?_⟩) ?_ ?_; rotate_left; (intro w'; go_simp; with_reducible rfl); rotate_left; (simp only [Act.put, List.setIfInBounds_toArray, List.set_cons_zero, List.set_cons_succ, i64_w]; rfl)
         refine done_ (zcp HT_.out (by kernel_rfl)) ?_
         try go_wp2
         go_meet
         case rel => exact ⟨_, (decide (((zag l0 a1).f0) < ((zag l0 (ji13)).f0))), (by first | rfl | (simp; done) | (simp only [← hji13] <;> (first | rfl | simp)) | (simp [*]; done)), H', ⟨by first | omega | exact Nat.le_refl _⟩, ⟨by (with_reducible repeat (first | refine zah ?_ _ | refine zaj ?_ | refine zai ?_ _)); exact BK281.out⟩, ⟨by repeat (first | (with_reducible first | exact HB.out | apply zac | apply zaa | apply zab | refine zaf ?_ GE281.out) | exact HB.out)⟩⟩
        ·rw [if_neg c15] at H
         exact absurd H (by simp)
       ·rw [if_neg c14] at H
        exact absurd H (by simp)
      ·rw [if_neg c12] at H
       have c12b0 : decide (0 < a1) = false := decide_eq_false c12
       clear c12
       (first | rw [c12b0] | (simp only [i64_w]; rw [c12b0]) | skip)
       have H' := zad.mk H
       clear H
       try go_wp2
       have n0_ := zad.mk (zaj BK281.out)
       have n1_ := zad.mk (zab HB.out)
       clear BK281
       clear HB
       have BK281 := n0_
       have HB := n1_
       clear n0_ n1_
       refine zcl (n := 13) (S := fun w' => True) (ds := []) #[false, false, false, false, false, false, false, false, false, false, false, false, false] (by kernel_rfl) rfl rfl trivial (fun hHeld => ?_); refine zcc zao.tab6 zao.bits6 (fun HT_ HW_ => ?_)
       generalize w11.drew = w17 at BK281 HB hHeld ⊢
       refine pure_ (i := 0) (N := some 20) (v := ?_) (a' := ?_) #[true, false, false, false, false, false, false, false, false, false, false, false, false] rfl rfl (zax HT_.out (by kernel_rfl)) (fun _ _ _ h => h) (Or.inl ⟨by rfl, ?_⟩) ?_ ?_; rotate_left; (intro w'; go_simp; with_reducible rfl); rotate_left; (simp only [Act.put, List.setIfInBounds_toArray, List.set_cons_zero, List.set_cons_succ, i64_w]; rfl)
       refine pure_ (i := 1) (N := some 21) (v := ?_) (a' := ?_) #[true, true, false, false, false, false, false, false, false, false, false, false, false] rfl rfl (zax HT_.out (by kernel_rfl)) (fun _ _ _ h => h) (Or.inl ⟨by rfl, ?_⟩) ?_ ?_; rotate_left; (intro w'; go_simp; with_reducible rfl); rotate_left; (simp only [Act.put, List.setIfInBounds_toArray, List.set_cons_zero, List.set_cons_succ, i64_w]; rfl)
       refine pure_ (i := 2) (N := some 22) (v := ?_) (a' := ?_) #[true, true, true, false, false, false, false, false, false, false, false, false, false] rfl rfl (zax HT_.out (by kernel_rfl)) (fun _ _ _ h => h) (Or.inl ⟨by rfl, ?_⟩) ?_ ?_; rotate_left; (intro w'; go_simp; with_reducible rfl); rotate_left; (simp only [Act.put, List.setIfInBounds_toArray, List.set_cons_zero, List.set_cons_succ, i64_w]; rfl)
       refine pure_ (i := 3) (N := some 23) (v := undef) (a' := ?_) #[true, true, true, true, false, false, false, false, false, false, false, false, false] rfl rfl (zax HT_.out (by kernel_rfl)) (fun _ _ _ h => h) (Or.inr ⟨by rfl, rfl⟩) ?_ ?_; rotate_left; (simp only [Act.put, List.setIfInBounds_toArray, List.set_cons_zero, List.set_cons_succ, i64_w]; rfl)
       refine pure_ (i := 4) (N := some 24) (v := undef) (a' := ?_) #[true, true, true, true, true, false, false, false, false, false, false, false, false] rfl rfl (zax HT_.out (by kernel_rfl)) (fun _ _ _ h => h) (Or.inr ⟨by rfl, rfl⟩) ?_ ?_; rotate_left; (simp only [Act.put, List.setIfInBounds_toArray, List.set_cons_zero, List.set_cons_succ, i64_w]; rfl)
       refine pure_ (i := 5) (N := some 25) (v := undef) (a' := ?_) #[true, true, true, true, true, true, false, false, false, false, false, false, false] rfl rfl (zax HT_.out (by kernel_rfl)) (fun _ _ _ h => h) (Or.inr ⟨by rfl, rfl⟩) ?_ ?_; rotate_left; (simp only [Act.put, List.setIfInBounds_toArray, List.set_cons_zero, List.set_cons_succ, i64_w]; rfl)
       refine pure_ (i := 6) (N := some 26) (v := undef) (a' := ?_) #[true, true, true, true, true, true, true, false, false, false, false, false, false] rfl rfl (zax HT_.out (by kernel_rfl)) (fun _ _ _ h => h) (Or.inr ⟨by rfl, rfl⟩) ?_ ?_; rotate_left; (simp only [Act.put, List.setIfInBounds_toArray, List.set_cons_zero, List.set_cons_succ, i64_w]; rfl)
       refine pure_ (i := 7) (N := some 27) (v := undef) (a' := ?_) #[true, true, true, true, true, true, true, true, false, false, false, false, false] rfl rfl (zax HT_.out (by kernel_rfl)) (fun _ _ _ h => h) (Or.inr ⟨by rfl, rfl⟩) ?_ ?_; rotate_left; (simp only [Act.put, List.setIfInBounds_toArray, List.set_cons_zero, List.set_cons_succ, i64_w]; rfl)
       refine pure_ (i := 8) (N := some 28) (v := undef) (a' := ?_) #[true, true, true, true, true, true, true, true, true, false, false, false, false] rfl rfl (zax HT_.out (by kernel_rfl)) (fun _ _ _ h => h) (Or.inr ⟨by rfl, rfl⟩) ?_ ?_; rotate_left; (simp only [Act.put, List.setIfInBounds_toArray, List.set_cons_zero, List.set_cons_succ, i64_w]; rfl)
       refine pure_ (i := 9) (N := some 29) (v := undef) (a' := ?_) #[true, true, true, true, true, true, true, true, true, true, false, false, false] rfl rfl (zax HT_.out (by kernel_rfl)) (fun _ _ _ h => h) (Or.inr ⟨by rfl, rfl⟩) ?_ ?_; rotate_left; (simp only [Act.put, List.setIfInBounds_toArray, List.set_cons_zero, List.set_cons_succ, i64_w]; rfl)
       refine pure_ (i := 10) (N := some 30) (v := undef) (a' := ?_) #[true, true, true, true, true, true, true, true, true, true, true, false, false] rfl rfl (zax HT_.out (by kernel_rfl)) (fun _ _ _ h => h) (Or.inr ⟨by rfl, rfl⟩) ?_ ?_; rotate_left; (simp only [Act.put, List.setIfInBounds_toArray, List.set_cons_zero, List.set_cons_succ, i64_w]; rfl)
       refine pure_ (i := 11) (N := some 31) (v := undef) (a' := ?_) #[true, true, true, true, true, true, true, true, true, true, true, true, false] rfl rfl (zax HT_.out (by kernel_rfl)) (fun _ _ _ h => h) (Or.inr ⟨by rfl, rfl⟩) ?_ ?_; rotate_left; (simp only [Act.put, List.setIfInBounds_toArray, List.set_cons_zero, List.set_cons_succ, i64_w]; rfl)
       refine pure_ (i := 12) (N := some 32) (v := ?_) (a' := ?_) #[true, true, true, true, true, true, true, true, true, true, true, true, true] rfl rfl (zax HT_.out (by kernel_rfl)) (fun _ _ _ h => h) (Or.inl ⟨by rfl, ?_⟩) ?_ ?_; rotate_left; (intro w'; go_simp; with_reducible rfl); rotate_left; (simp only [Act.put, List.setIfInBounds_toArray, List.set_cons_zero, List.set_cons_succ, i64_w]; rfl)
       refine done_ (zcp HT_.out (by kernel_rfl)) ?_
       try go_wp2
       go_meet
       case rel => exact ⟨_, (false), (by first | rfl | (simp; done) | (simp [*]; done)), H', ⟨by first | omega | exact Nat.le_refl _⟩, ⟨by (with_reducible repeat (first | refine zah ?_ _ | refine zaj ?_ | refine zai ?_ _)); exact BK281.out⟩, ⟨by repeat (first | (with_reducible first | exact HB.out | apply zac | apply zaa | apply zab | refine zaf ?_ GE281.out) | exact HB.out)⟩⟩
     case rest =>
      clear HC8
      try clear c1
      try clear c2
      try clear p2
      try clear q2
      try clear hx2
      try clear c3
      try clear c3b0
      try clear c4
      try clear c4b0
      try clear c5
      try clear c5b0
      try clear p6
      try clear c7
      try clear c12
      try clear c12b0
      try clear c14
      try clear c14b0
      try clear c15
      try clear c15b0
      try clear hcz10_0 hcz10_1 hcz10_10 hcz10_11 hcz10_12 hcz10_13 hcz10_2 hcz10_3 hcz10_4 hcz10_5 hcz10_6 hcz10_7 hcz10_8 hcz10_9
      try clear hfz10_0 hfz10_1 hfz10_10 hfz10_11 hfz10_12 hfz10_13 hfz10_2 hfz10_3 hfz10_4 hfz10_5 hfz10_6 hfz10_7 hfz10_8 hfz10_9
      try clear hx280_0
      try clear hx280_1
      try clear hx280_10
      try clear hx280_11
      try clear hx280_12
      try clear hx280_13
      try clear hx280_2
      try clear hx280_3
      try clear hx280_4
      try clear hx280_5
      try clear hx280_6
      try clear hx280_7
      try clear hx280_8
      try clear hx280_9
      try clear hx283_0
      try clear hx283_1
      try clear hx283_10
      try clear hx283_11
      try clear hx283_12
      try clear hx283_13
      try clear hx283_2
      try clear hx283_3
      try clear hx283_4
      try clear hx283_5
      try clear hx283_6
      try clear hx283_7
      try clear hx283_8
      try clear hx283_9
      try clear p280
      try clear p283
      try clear q280
      try clear q283
      obtain ⟨kq, x32_7, rfl, HA, HJ7, BK281, HB⟩ := hcut
      cases kq with
      | zero => exact absurd HA.out (by simp [zao.j0])
      | succ kj7 =>
       have H := HA.out
       clear HA
       simp only [zao.j0] at H
       by_cases c18 : x32_7 = true
       ·subst c18
        have H1 : (some 4) = some r := by rw [if_pos rfl] at H; exact H
        clear H
        have H := H1
        clear H1
        obtain rfl := Option.some.inj H
        go_wp2
        go_ret
        exact ⟨by first | rfl | (simp [zam, zal] <;> rfl) | (simp [*, zam, zal] <;> rfl), by repeat (first | (with_reducible first | exact HB.out | apply zac | apply zaa | apply zab | refine zaf ?_ GE281.out) | exact HB.out)⟩
       ·replace c18 := Bool.eq_false_iff.mpr c18
        subst c18
        have H1 : ((zbd.f kj7 l0 a1).bind fun t284 => (if t284 ≥ 0 then (if 0 ≤ t284 then (if t284 < (l0.length : Int) then (zao.j1 kj7 l0 t284 (((zag l0 t284).f2) == 1) ((zag l0 a1).f0) ((zag l0 a1).f1.f0) ((zag l0 a1).f1.f1) ((zag l0 a1).f1.f2) ((zag l0 a1).f2) ((zag l0 a1).f3) ((zag l0 a1).f4.f0) ((zag l0 a1).f4.f1) ((zag l0 a1).f4.f2) ((zag l0 a1).f5) ((zag l0 a1).f6) ((zag l0 a1).f7) ((zag l0 a1).f8) ((zag l0 a1).f9)) else (none)) else (none)) else (zao.j1 kj7 l0 t284 false ((zag l0 a1).f0) ((zag l0 a1).f1.f0) ((zag l0 a1).f1.f1) ((zag l0 a1).f1.f2) ((zag l0 a1).f2) ((zag l0 a1).f3) ((zag l0 a1).f4.f0) ((zag l0 a1).f4.f1) ((zag l0 a1).f4.f2) ((zag l0 a1).f5) ((zag l0 a1).f6) ((zag l0 a1).f7) ((zag l0 a1).f8) ((zag l0 a1).f9)))) = some r := by rw [if_neg (show ¬ (false = true) by decide)] at H; exact H
        clear H
        have H := H1
        clear H1
        replace H := Option.bind_eq_some_iff.mp H
        obtain ⟨t284, A190, H⟩ := H
        replace H : (if t284 ≥ 0 then (if 0 ≤ t284 then (if t284 < (l0.length : Int) then (zao.j1 kj7 l0 t284 (((zag l0 t284).f2) == 1) ((zag l0 a1).f0) ((zag l0 a1).f1.f0) ((zag l0 a1).f1.f1) ((zag l0 a1).f1.f2) ((zag l0 a1).f2) ((zag l0 a1).f3) ((zag l0 a1).f4.f0) ((zag l0 a1).f4.f1) ((zag l0 a1).f4.f2) ((zag l0 a1).f5) ((zag l0 a1).f6) ((zag l0 a1).f7) ((zag l0 a1).f8) ((zag l0 a1).f9)) else (none)) else (none)) else (zao.j1 kj7 l0 t284 false ((zag l0 a1).f0) ((zag l0 a1).f1.f0) ((zag l0 a1).f1.f1) ((zag l0 a1).f1.f2) ((zag l0 a1).f2) ((zag l0 a1).f3) ((zag l0 a1).f4.f0) ((zag l0 a1).f4.f1) ((zag l0 a1).f4.f2) ((zag l0 a1).f5) ((zag l0 a1).f6) ((zag l0 a1).f7) ((zag l0 a1).f8) ((zag l0 a1).f9))) = some r := H
        have A19 := zad.mk A190
        clear A190
        have HC20 := zad.mk H
        clear H
        go_upto_region 9 with (first | ((with_reducible refine za0 (f := 30) rfl ?_); refine zbq (some 35) rfl rfl Tryd.func30 (by kernel_rfl) rfl #[.slice (some ad280) l0.length c0, .int .i64 a1] rfl (by (try simp only [List.map_toArray, List.map_cons, List.map_nil]); first | done | rfl | (simp only [List.length_drop, List.length_take]; rfl)) ?_; (with_reducible refine (zbd.calls kj7 _ _ l0 a1 t284 _ ?side1 ?side2 A19.out).mono ?_); (case side1 => repeat (first | exact (Kd.zbn HR0.out HB.out) | (with_reducible refine Kd.zb7 ?_ _) | (with_reducible refine Kd.C_drewN ?_ _) | (with_reducible refine Kd.C_drew ?_))); (case side2 => exact HC0.out); rintro e w' ⟨rfl, ⟨nd, rfl⟩⟩; refine ⟨_, rfl, ?_⟩))
        (try simp only [Act.put, List.setIfInBounds_toArray, List.set_cons_zero, List.set_cons_succ])
        go_cut [7] (fun v7 wc => ∃ (kq : Nat) (x7_19 : Bool), v7 = .bool x7_19 ∧ zad (zao.j1 kq l0 t284 x7_19 ((zag l0 a1).f0) ((zag l0 a1).f1.f0) ((zag l0 a1).f1.f1) ((zag l0 a1).f1.f2) ((zag l0 a1).f2) ((zag l0 a1).f3) ((zag l0 a1).f4.f0) ((zag l0 a1).f4.f1) ((zag l0 a1).f4.f2) ((zag l0 a1).f5) ((zag l0 a1).f6) ((zag l0 a1).f7) ((zag l0 a1).f8) ((zag l0 a1).f9) = some r) ∧ zad (kq ≤ kj7) ∧ zad (wc.heap[gb281]? = some (.cells #[.int .i64 ((zag l0 a1).f0), .int .i64 ((zag l0 a1).f1.f0), .int .i64 ((zag l0 a1).f1.f1), .string ((zag l0 a1).f1.f2), .int .i64 ((zag l0 a1).f2), .int .i64 ((zag l0 a1).f3), .int .i64 ((zag l0 a1).f4.f0), .int .i64 ((zag l0 a1).f4.f1), .string ((zag l0 a1).f4.f2), .int .i64 ((zag l0 a1).f5), (.slice A280_10 ((zag l0 a1).f6).length c280_10), (.slice A280_11 ((zag l0 a1).f7).length c280_11), .bool ((zag l0 a1).f8), .string ((zag l0 a1).f9)] 47 (0, 0))) ∧ zad (Below w.heap.size w wc))
        case first =>
         have H := HC20.out
         clear HC20
         by_cases c21 : t284 ≥ 0
         ·rw [if_pos c21] at H
          have c21b0 : decide (0 ≤ t284) = true := decide_eq_true c21
          clear c21
          (first | rw [c21b0] | (simp only [i64_w]; rw [c21b0]) | skip)
          by_cases c22 : 0 ≤ t284
          ·rw [if_pos c22] at H
           have c22b0 : decide (0 ≤ t284) = true := decide_eq_true c22
           clear c22
           by_cases c23 : t284 < (l0.length : Int)
           ·rw [if_pos c23] at H
            have c23b0 : decide (t284 < (l0.length : Int)) = true := decide_eq_true c23
            clear c23
            have H' := zad.mk H
            clear H
            have p285 : 0 ≤ (t284 : Int) := of_decide_eq_true (by first | (with_reducible assumption) | assumption)
            have q285 : t284 < (l0.length : Int) := of_decide_eq_true (by first | (with_reducible assumption) | assumption)
            obtain ⟨ad285, A285_10, c285_10, A285_11, c285_11, e285, hx285_0, hx285_1, hx285_2, hx285_3, hx285_4, hx285_5, hx285_6, hx285_7, hx285_8, hx285_9, hx285_10, hx285_11, hx285_12, hx285_13, hl285_10, hi285_10, hl285_11, hi285_11⟩ := zcv HR0.out t284 p285 q285
            obtain rfl : ad280 = ad285 := (by injection e285)
            replace hx285_0 := (HB.out.cell (World.block_lt_of_cell? w _ hx285_0)).trans hx285_0
            replace hx285_1 := (HB.out.cell (World.block_lt_of_cell? w _ hx285_1)).trans hx285_1
            replace hx285_2 := (HB.out.cell (World.block_lt_of_cell? w _ hx285_2)).trans hx285_2
            replace hx285_3 := (HB.out.cell (World.block_lt_of_cell? w _ hx285_3)).trans hx285_3
            replace hx285_4 := (HB.out.cell (World.block_lt_of_cell? w _ hx285_4)).trans hx285_4
            replace hx285_5 := (HB.out.cell (World.block_lt_of_cell? w _ hx285_5)).trans hx285_5
            replace hx285_6 := (HB.out.cell (World.block_lt_of_cell? w _ hx285_6)).trans hx285_6
            replace hx285_7 := (HB.out.cell (World.block_lt_of_cell? w _ hx285_7)).trans hx285_7
            replace hx285_8 := (HB.out.cell (World.block_lt_of_cell? w _ hx285_8)).trans hx285_8
            replace hx285_9 := (HB.out.cell (World.block_lt_of_cell? w _ hx285_9)).trans hx285_9
            replace hx285_10 := (HB.out.cell (World.block_lt_of_cell? w _ hx285_10)).trans hx285_10
            replace hx285_11 := (HB.out.cell (World.block_lt_of_cell? w _ hx285_11)).trans hx285_11
            replace hx285_12 := (HB.out.cell (World.block_lt_of_cell? w _ hx285_12)).trans hx285_12
            replace hx285_13 := (HB.out.cell (World.block_lt_of_cell? w _ hx285_13)).trans hx285_13
            have HR285_10 := zad.mk hi285_10
            have HC285_10 := zad.mk hl285_10
            clear hi285_10 hl285_10
            have HR285_11 := zad.mk hi285_11
            have HC285_11 := zad.mk hl285_11
            clear hi285_11 hl285_11
            replace p285 := eq_true p285
            replace q285 := eq_true q285
            go_wp2
            go_meet
            case rel => exact ⟨_, ((((zag l0 t284).f2) == 1)), (by first | rfl | (simp; done) | (simp [*]; done)), H', ⟨by have := HJ7.out; first | omega | exact Nat.le_refl _⟩, ⟨by (with_reducible repeat (first | refine zah ?_ _ | refine zaj ?_ | refine zai ?_ _)); exact BK281.out⟩, ⟨by repeat (first | (with_reducible first | exact HB.out | apply zac | apply zaa | apply zab | refine zaf ?_ GE281.out) | exact HB.out)⟩⟩
           ·rw [if_neg c23] at H
            exact absurd H (by simp)
          ·rw [if_neg c22] at H
           exact absurd H (by simp)
         ·rw [if_neg c21] at H
          have c21b0 : decide (0 ≤ t284) = false := decide_eq_false c21
          clear c21
          (first | rw [c21b0] | (simp only [i64_w]; rw [c21b0]) | skip)
          have H' := zad.mk H
          clear H
          go_wp2
          go_meet
          case rel => exact ⟨_, (false), (by first | rfl | (simp; done) | (simp [*]; done)), H', ⟨by have := HJ7.out; first | omega | exact Nat.le_refl _⟩, ⟨by (with_reducible repeat (first | refine zah ?_ _ | refine zaj ?_ | refine zai ?_ _)); exact BK281.out⟩, ⟨by repeat (first | (with_reducible first | exact HB.out | apply zac | apply zaa | apply zab | refine zaf ?_ GE281.out) | exact HB.out)⟩⟩
        case rest =>
         clear HC20
         try clear c1
         try clear c2
         try clear p2 p2
         try clear q2 q2
         try clear hx2
         try clear c3
         try clear c3b0
         try clear c4
         try clear c4b0
         try clear c5
         try clear c5b0
         try clear p6 p6
         try clear c7
         try clear c12
         try clear c12b0
         try clear c14
         try clear c14b0
         try clear c15
         try clear c15b0
         try clear c18
         try clear c21
         try clear c21b0
         try clear c22
         try clear c22b0
         try clear c23
         try clear c23b0
         try clear hcz10_0 hcz10_1 hcz10_10 hcz10_11 hcz10_12 hcz10_13 hcz10_2 hcz10_3 hcz10_4 hcz10_5 hcz10_6 hcz10_7 hcz10_8 hcz10_9
         try clear hfz10_0 hfz10_1 hfz10_10 hfz10_11 hfz10_12 hfz10_13 hfz10_2 hfz10_3 hfz10_4 hfz10_5 hfz10_6 hfz10_7 hfz10_8 hfz10_9
         try clear hx280_0
         try clear hx280_1
         try clear hx280_10
         try clear hx280_11
         try clear hx280_12
         try clear hx280_13
         try clear hx280_2
         try clear hx280_3
         try clear hx280_4
         try clear hx280_5
         try clear hx280_6
         try clear hx280_7
         try clear hx280_8
         try clear hx280_9
         try clear hx283_0
         try clear hx283_1
         try clear hx283_10
         try clear hx283_11
         try clear hx283_12
         try clear hx283_13
         try clear hx283_2
         try clear hx283_3
         try clear hx283_4
         try clear hx283_5
         try clear hx283_6
         try clear hx283_7
         try clear hx283_8
         try clear hx283_9
         try clear hx285_0
         try clear hx285_1
         try clear hx285_10
         try clear hx285_11
         try clear hx285_12
         try clear hx285_13
         try clear hx285_2
         try clear hx285_3
         try clear hx285_4
         try clear hx285_5
         try clear hx285_6
         try clear hx285_7
         try clear hx285_8
         try clear hx285_9
         try clear p280
         try clear p283
         try clear p285
         try clear q280
         try clear q283
         try clear q285
         obtain ⟨kq, x7_19, rfl, HA, HJ19, BK281, HB⟩ := hcut
         cases kq with
         | zero => exact absurd HA.out (by simp [zao.j1])
         | succ kj19 =>
          have H := HA.out
          clear HA
          simp only [zao.j1] at H
          have HC24 := zad.mk H
          clear H
          go_upto_region 10 with (fail)
          go_cut [8] (fun v8 wc => ∃ (kq : Nat) (x8_23 : Bool), v8 = .bool x8_23 ∧ zad (zao.j2 kq l0 t284 x7_19 x8_23 ((zag l0 a1).f0) ((zag l0 a1).f1.f0) ((zag l0 a1).f1.f1) ((zag l0 a1).f1.f2) ((zag l0 a1).f2) ((zag l0 a1).f3) ((zag l0 a1).f4.f0) ((zag l0 a1).f4.f1) ((zag l0 a1).f4.f2) ((zag l0 a1).f5) ((zag l0 a1).f6) ((zag l0 a1).f7) ((zag l0 a1).f8) ((zag l0 a1).f9) = some r) ∧ zad (kq ≤ kj19) ∧ zad (wc.heap[gb281]? = some (.cells #[.int .i64 ((zag l0 a1).f0), .int .i64 ((zag l0 a1).f1.f0), .int .i64 ((zag l0 a1).f1.f1), .string ((zag l0 a1).f1.f2), .int .i64 ((zag l0 a1).f2), .int .i64 ((zag l0 a1).f3), .int .i64 ((zag l0 a1).f4.f0), .int .i64 ((zag l0 a1).f4.f1), .string ((zag l0 a1).f4.f2), .int .i64 ((zag l0 a1).f5), (.slice A280_10 ((zag l0 a1).f6).length c280_10), (.slice A280_11 ((zag l0 a1).f7).length c280_11), .bool ((zag l0 a1).f8), .string ((zag l0 a1).f9)] 47 (0, 0))) ∧ zad (Below w.heap.size w wc))
          case first =>
           have H := HC24.out
           clear HC24
           by_cases c25 : t284 ≥ 0
           ·rw [if_pos c25] at H
            have c25b0 : decide (0 ≤ t284) = true := decide_eq_true c25
            clear c25
            (first | rw [c25b0] | (simp only [i64_w]; rw [c25b0]) | skip)
            by_cases c26 : 0 ≤ t284
            ·rw [if_pos c26] at H
             have c26b0 : decide (0 ≤ t284) = true := decide_eq_true c26
             clear c26
             by_cases c27 : t284 < (l0.length : Int)
             ·rw [if_pos c27] at H
              have c27b0 : decide (t284 < (l0.length : Int)) = true := decide_eq_true c27
              clear c27
              have H' := zad.mk H
              clear H
              have p286 : 0 ≤ (t284 : Int) := of_decide_eq_true (by first | (with_reducible assumption) | assumption)
              have q286 : t284 < (l0.length : Int) := of_decide_eq_true (by first | (with_reducible assumption) | assumption)
              obtain ⟨ad286, A286_10, c286_10, A286_11, c286_11, e286, hx286_0, hx286_1, hx286_2, hx286_3, hx286_4, hx286_5, hx286_6, hx286_7, hx286_8, hx286_9, hx286_10, hx286_11, hx286_12, hx286_13, hl286_10, hi286_10, hl286_11, hi286_11⟩ := zcv HR0.out t284 p286 q286
              obtain rfl : ad280 = ad286 := (by injection e286)
              replace hx286_0 := (HB.out.cell (World.block_lt_of_cell? w _ hx286_0)).trans hx286_0
              replace hx286_1 := (HB.out.cell (World.block_lt_of_cell? w _ hx286_1)).trans hx286_1
              replace hx286_2 := (HB.out.cell (World.block_lt_of_cell? w _ hx286_2)).trans hx286_2
              replace hx286_3 := (HB.out.cell (World.block_lt_of_cell? w _ hx286_3)).trans hx286_3
              replace hx286_4 := (HB.out.cell (World.block_lt_of_cell? w _ hx286_4)).trans hx286_4
              replace hx286_5 := (HB.out.cell (World.block_lt_of_cell? w _ hx286_5)).trans hx286_5
              replace hx286_6 := (HB.out.cell (World.block_lt_of_cell? w _ hx286_6)).trans hx286_6
              replace hx286_7 := (HB.out.cell (World.block_lt_of_cell? w _ hx286_7)).trans hx286_7
              replace hx286_8 := (HB.out.cell (World.block_lt_of_cell? w _ hx286_8)).trans hx286_8
              replace hx286_9 := (HB.out.cell (World.block_lt_of_cell? w _ hx286_9)).trans hx286_9
              replace hx286_10 := (HB.out.cell (World.block_lt_of_cell? w _ hx286_10)).trans hx286_10
              replace hx286_11 := (HB.out.cell (World.block_lt_of_cell? w _ hx286_11)).trans hx286_11
              replace hx286_12 := (HB.out.cell (World.block_lt_of_cell? w _ hx286_12)).trans hx286_12
              replace hx286_13 := (HB.out.cell (World.block_lt_of_cell? w _ hx286_13)).trans hx286_13
              have HR286_10 := zad.mk hi286_10
              have HC286_10 := zad.mk hl286_10
              clear hi286_10 hl286_10
              have HR286_11 := zad.mk hi286_11
              have HC286_11 := zad.mk hl286_11
              clear hi286_11 hl286_11
              replace p286 := eq_true p286
              replace q286 := eq_true q286
              go_wp2
              go_meet
              case rel => exact ⟨_, ((((zag l0 t284).f2) == 4)), (by first | rfl | (simp; done) | (simp [*]; done)), H', ⟨by have := HJ7.out; have := HJ19.out; first | omega | exact Nat.le_refl _⟩, ⟨by (with_reducible repeat (first | refine zah ?_ _ | refine zaj ?_ | refine zai ?_ _)); exact BK281.out⟩, ⟨by repeat (first | (with_reducible first | exact HB.out | apply zac | apply zaa | apply zab | refine zaf ?_ GE281.out) | exact HB.out)⟩⟩
             ·rw [if_neg c27] at H
              exact absurd H (by simp)
            ·rw [if_neg c26] at H
             exact absurd H (by simp)
           ·rw [if_neg c25] at H
            have c25b0 : decide (0 ≤ t284) = false := decide_eq_false c25
            clear c25
            (first | rw [c25b0] | (simp only [i64_w]; rw [c25b0]) | skip)
            have H' := zad.mk H
            clear H
            go_wp2
            go_meet
            case rel => exact ⟨_, (false), (by first | rfl | (simp; done) | (simp [*]; done)), H', ⟨by have := HJ7.out; have := HJ19.out; first | omega | exact Nat.le_refl _⟩, ⟨by (with_reducible repeat (first | refine zah ?_ _ | refine zaj ?_ | refine zai ?_ _)); exact BK281.out⟩, ⟨by repeat (first | (with_reducible first | exact HB.out | apply zac | apply zaa | apply zab | refine zaf ?_ GE281.out) | exact HB.out)⟩⟩
          case rest =>
           clear HC24
           try clear c1
           try clear c2
           try clear p2 p2
           try clear q2 q2
           try clear hx2
           try clear c3
           try clear c3b0
           try clear c4
           try clear c4b0
           try clear c5
           try clear c5b0
           try clear p6 p6
           try clear c7
           try clear c12
           try clear c12b0
           try clear c14
           try clear c14b0
           try clear c15
           try clear c15b0
           try clear c18
           try clear c21
           try clear c21b0
           try clear c22
           try clear c22b0
           try clear c23
           try clear c23b0
           try clear c25
           try clear c25b0
           try clear c26
           try clear c26b0
           try clear c27
           try clear c27b0
           try clear hcz10_0 hcz10_1 hcz10_10 hcz10_11 hcz10_12 hcz10_13 hcz10_2 hcz10_3 hcz10_4 hcz10_5 hcz10_6 hcz10_7 hcz10_8 hcz10_9
           try clear hfz10_0 hfz10_1 hfz10_10 hfz10_11 hfz10_12 hfz10_13 hfz10_2 hfz10_3 hfz10_4 hfz10_5 hfz10_6 hfz10_7 hfz10_8 hfz10_9
           try clear hx280_0
           try clear hx280_1
           try clear hx280_10
           try clear hx280_11
           try clear hx280_12
           try clear hx280_13
           try clear hx280_2
           try clear hx280_3
           try clear hx280_4
           try clear hx280_5
           try clear hx280_6
           try clear hx280_7
           try clear hx280_8
           try clear hx280_9
           try clear hx283_0
           try clear hx283_1
           try clear hx283_10
           try clear hx283_11
           try clear hx283_12
           try clear hx283_13
           try clear hx283_2
           try clear hx283_3
           try clear hx283_4
           try clear hx283_5
           try clear hx283_6
           try clear hx283_7
           try clear hx283_8
           try clear hx283_9
           try clear hx285_0
           try clear hx285_1
           try clear hx285_10
           try clear hx285_11
           try clear hx285_12
           try clear hx285_13
           try clear hx285_2
           try clear hx285_3
           try clear hx285_4
           try clear hx285_5
           try clear hx285_6
           try clear hx285_7
           try clear hx285_8
           try clear hx285_9
           try clear hx286_0
           try clear hx286_1
           try clear hx286_10
           try clear hx286_11
           try clear hx286_12
           try clear hx286_13
           try clear hx286_2
           try clear hx286_3
           try clear hx286_4
           try clear hx286_5
           try clear hx286_6
           try clear hx286_7
           try clear hx286_8
           try clear hx286_9
           try clear p280
           try clear p283
           try clear p285
           try clear p286
           try clear q280
           try clear q283
           try clear q285
           try clear q286
           obtain ⟨kq, x8_23, rfl, HA, HJ23, BK281, HB⟩ := hcut
           cases kq with
           | zero => exact absurd HA.out (by simp [zao.j2])
           | succ kj23 =>
            have H := HA.out
            clear HA
            simp only [zao.j2] at H
            by_cases c28 : ((zag l0 a1).f2) = 1
            ·rw [if_pos c28] at H
             have c28b0 : (((zag l0 a1).f2) == 1) = true := beq_iff_eq.mpr c28
             have c28b1 : (((zag l0 a1).f2) != 1) = false := bne_eq_false_iff_eq.mpr c28
             clear c28
             by_cases c29 : x7_19 = true
             ·subst c29
              have H1 : (some 4) = some r := by rw [if_pos rfl] at H; exact H
              clear H
              have H := H1
              clear H1
              obtain rfl := Option.some.inj H
              obtain ⟨hcz30_0, hcz30_1, hcz30_2, hcz30_3, hcz30_4, hcz30_5, hcz30_6, hcz30_7, hcz30_8, hcz30_9, hcz30_10, hcz30_11, hcz30_12, hcz30_13⟩ := cq14 BK281.out
              obtain ⟨hfz30_0, hfz30_1, hfz30_2, hfz30_3, hfz30_4, hfz30_5, hfz30_6, hfz30_7, hfz30_8, hfz30_9, hfz30_10, hfz30_11, hfz30_12, hfz30_13⟩ := fq14 BK281.out
              go_wp2
              go_ret
              exact ⟨by first | rfl | (simp [zam, zal] <;> rfl) | (simp [*, zam, zal] <;> rfl), by repeat (first | (with_reducible first | exact HB.out | apply zac | apply zaa | apply zab | refine zaf ?_ GE281.out) | exact HB.out)⟩
             ·replace c29 := Bool.eq_false_iff.mpr c29
              subst c29
              have H1 : (if x8_23 = true then (some 4) else (some 0)) = some r := by rw [if_neg (show ¬ (false = true) by decide)] at H; exact H
              clear H
              have H := H1
              clear H1
              by_cases c31 : x8_23 = true
              ·subst c31
               have H1 : (some 4) = some r := by rw [if_pos rfl] at H; exact H
               clear H
               have H := H1
               clear H1
               obtain rfl := Option.some.inj H
               obtain ⟨hcz32_0, hcz32_1, hcz32_2, hcz32_3, hcz32_4, hcz32_5, hcz32_6, hcz32_7, hcz32_8, hcz32_9, hcz32_10, hcz32_11, hcz32_12, hcz32_13⟩ := cq14 BK281.out
               obtain ⟨hfz32_0, hfz32_1, hfz32_2, hfz32_3, hfz32_4, hfz32_5, hfz32_6, hfz32_7, hfz32_8, hfz32_9, hfz32_10, hfz32_11, hfz32_12, hfz32_13⟩ := fq14 BK281.out
               go_wp2
               go_ret
               exact ⟨by first | rfl | (simp [zam, zal] <;> rfl) | (simp [*, zam, zal] <;> rfl), by repeat (first | (with_reducible first | exact HB.out | apply zac | apply zaa | apply zab | refine zaf ?_ GE281.out) | exact HB.out)⟩
              ·replace c31 := Bool.eq_false_iff.mpr c31
               subst c31
               have H1 : (some 0) = some r := by rw [if_neg (show ¬ (false = true) by decide)] at H; exact H
               clear H
               have H := H1
               clear H1
               obtain rfl := Option.some.inj H
               obtain ⟨hcz33_0, hcz33_1, hcz33_2, hcz33_3, hcz33_4, hcz33_5, hcz33_6, hcz33_7, hcz33_8, hcz33_9, hcz33_10, hcz33_11, hcz33_12, hcz33_13⟩ := cq14 BK281.out
               obtain ⟨hfz33_0, hfz33_1, hfz33_2, hfz33_3, hfz33_4, hfz33_5, hfz33_6, hfz33_7, hfz33_8, hfz33_9, hfz33_10, hfz33_11, hfz33_12, hfz33_13⟩ := fq14 BK281.out
               go_wp2
               go_ret
               exact ⟨by first | rfl | (simp [zam, zal] <;> rfl) | (simp [*, zam, zal] <;> rfl), by repeat (first | (with_reducible first | exact HB.out | apply zac | apply zaa | apply zab | refine zaf ?_ GE281.out) | exact HB.out)⟩
            ·rw [if_neg c28] at H
             have c28b0 : (((zag l0 a1).f2) == 1) = false := beq_eq_false_iff_ne.mpr c28
             have c28b1 : (((zag l0 a1).f2) != 1) = true := bne_iff_ne.mpr c28
             by_cases c34 : x7_19 = true
             ·subst c34
              have H1 : (if ((zag l0 a1).f2) = 2 then (if 0 ≤ t284 then (if t284 < (l0.length : Int) then ((zat.f kj23 ((zag l0 t284).f3) ((zag l0 t284).f5) ((zag l0 a1).f7)).bind fun bt289 => (if bt289.2 = true then (some 0) else (some 4))) else (none)) else (none)) else (some 0)) = some r := by rw [if_pos rfl] at H; exact H
              clear H
              have H := H1
              clear H1
              by_cases c35 : ((zag l0 a1).f2) = 2
              ·rw [if_pos c35] at H
               have c35b0 : (((zag l0 a1).f2) == 2) = true := beq_iff_eq.mpr c35
               have c35b1 : (((zag l0 a1).f2) != 2) = false := bne_eq_false_iff_eq.mpr c35
               clear c35
               by_cases c36 : 0 ≤ t284
               ·rw [if_pos c36] at H
                have c36b0 : decide (0 ≤ t284) = true := decide_eq_true c36
                clear c36
                by_cases c37 : t284 < (l0.length : Int)
                ·rw [if_pos c37] at H
                 have c37b0 : decide (t284 < (l0.length : Int)) = true := decide_eq_true c37
                 clear c37
                 replace H := Option.bind_eq_some_iff.mp H
                 obtain ⟨⟨t289, t290⟩, A380, H⟩ := H
                 replace H : (if t290 = true then (some 0) else (some 4)) = some r := H
                 have A38 := zad.mk A380
                 clear A380
                 by_cases c39 : t290 = true
                 ·subst c39
                  have H1 : (some 0) = some r := by rw [if_pos rfl] at H; exact H
                  clear H
                  have H := H1
                  clear H1
                  obtain rfl := Option.some.inj H
                  obtain ⟨hcz40_0, hcz40_1, hcz40_2, hcz40_3, hcz40_4, hcz40_5, hcz40_6, hcz40_7, hcz40_8, hcz40_9, hcz40_10, hcz40_11, hcz40_12, hcz40_13⟩ := cq14 BK281.out
                  obtain ⟨hfz40_0, hfz40_1, hfz40_2, hfz40_3, hfz40_4, hfz40_5, hfz40_6, hfz40_7, hfz40_8, hfz40_9, hfz40_10, hfz40_11, hfz40_12, hfz40_13⟩ := fq14 BK281.out
                  try go_wp2
                  have n0_ := zad.mk (zaj BK281.out)
                  have n1_ := zad.mk (zab HB.out)
                  clear BK281
                  clear HB
                  have BK281 := n0_
                  have HB := n1_
                  clear n0_ n1_
                  have p287 : 0 ≤ (t284 : Int) := of_decide_eq_true (by first | (with_reducible assumption) | assumption)
                  have q287 : t284 < (l0.length : Int) := of_decide_eq_true (by first | (with_reducible assumption) | assumption)
                  obtain ⟨ad287, A287_10, c287_10, A287_11, c287_11, e287, hx287_0, hx287_1, hx287_2, hx287_3, hx287_4, hx287_5, hx287_6, hx287_7, hx287_8, hx287_9, hx287_10, hx287_11, hx287_12, hx287_13, hl287_10, hi287_10, hl287_11, hi287_11⟩ := zcv HR0.out t284 p287 q287
                  have hw287_13 := hx287_13
                  have hw287_12 := hx287_12
                  have hw287_11 := hx287_11
                  have hw287_10 := hx287_10
                  have hw287_9 := hx287_9
                  have hw287_8 := hx287_8
                  have hw287_7 := hx287_7
                  have hw287_6 := hx287_6
                  have hw287_5 := hx287_5
                  have hw287_4 := hx287_4
                  have hw287_3 := hx287_3
                  have hw287_2 := hx287_2
                  have hw287_1 := hx287_1
                  have hw287_0 := hx287_0
                  obtain rfl : ad280 = ad287 := (by injection e287)
                  replace hx287_0 := (HB.out.cell (World.block_lt_of_cell? w _ hx287_0)).trans hx287_0
                  replace hx287_1 := (HB.out.cell (World.block_lt_of_cell? w _ hx287_1)).trans hx287_1
                  replace hx287_2 := (HB.out.cell (World.block_lt_of_cell? w _ hx287_2)).trans hx287_2
                  replace hx287_3 := (HB.out.cell (World.block_lt_of_cell? w _ hx287_3)).trans hx287_3
                  replace hx287_4 := (HB.out.cell (World.block_lt_of_cell? w _ hx287_4)).trans hx287_4
                  replace hx287_5 := (HB.out.cell (World.block_lt_of_cell? w _ hx287_5)).trans hx287_5
                  replace hx287_6 := (HB.out.cell (World.block_lt_of_cell? w _ hx287_6)).trans hx287_6
                  replace hx287_7 := (HB.out.cell (World.block_lt_of_cell? w _ hx287_7)).trans hx287_7
                  replace hx287_8 := (HB.out.cell (World.block_lt_of_cell? w _ hx287_8)).trans hx287_8
                  replace hx287_9 := (HB.out.cell (World.block_lt_of_cell? w _ hx287_9)).trans hx287_9
                  replace hx287_10 := (HB.out.cell (World.block_lt_of_cell? w _ hx287_10)).trans hx287_10
                  replace hx287_11 := (HB.out.cell (World.block_lt_of_cell? w _ hx287_11)).trans hx287_11
                  replace hx287_12 := (HB.out.cell (World.block_lt_of_cell? w _ hx287_12)).trans hx287_12
                  replace hx287_13 := (HB.out.cell (World.block_lt_of_cell? w _ hx287_13)).trans hx287_13
                  have HR287_10 := zad.mk hi287_10
                  have HC287_10 := zad.mk hl287_10
                  clear hi287_10 hl287_10
                  have HR287_11 := zad.mk hi287_11
                  have HC287_11 := zad.mk hl287_11
                  clear hi287_11 hl287_11
                  replace p287 := eq_true p287
                  replace q287 := eq_true q287
                  have p288 : 0 ≤ (t284 : Int) := of_decide_eq_true (by first | (with_reducible assumption) | assumption)
                  have q288 : t284 < (l0.length : Int) := of_decide_eq_true (by first | (with_reducible assumption) | assumption)
                  obtain ⟨ad288, A288_10, c288_10, A288_11, c288_11, e288, hx288_0, hx288_1, hx288_2, hx288_3, hx288_4, hx288_5, hx288_6, hx288_7, hx288_8, hx288_9, hx288_10, hx288_11, hx288_12, hx288_13, hl288_10, hi288_10, hl288_11, hi288_11⟩ := zcv HR0.out t284 p288 q288
                  have hw288_13 := hx288_13
                  have hw288_12 := hx288_12
                  have hw288_11 := hx288_11
                  have hw288_10 := hx288_10
                  have hw288_9 := hx288_9
                  have hw288_8 := hx288_8
                  have hw288_7 := hx288_7
                  have hw288_6 := hx288_6
                  have hw288_5 := hx288_5
                  have hw288_4 := hx288_4
                  have hw288_3 := hx288_3
                  have hw288_2 := hx288_2
                  have hw288_1 := hx288_1
                  have hw288_0 := hx288_0
                  obtain rfl : ad280 = ad288 := (by injection e288)
                  replace hx288_0 := (HB.out.cell (World.block_lt_of_cell? w _ hx288_0)).trans hx288_0
                  replace hx288_1 := (HB.out.cell (World.block_lt_of_cell? w _ hx288_1)).trans hx288_1
                  replace hx288_2 := (HB.out.cell (World.block_lt_of_cell? w _ hx288_2)).trans hx288_2
                  replace hx288_3 := (HB.out.cell (World.block_lt_of_cell? w _ hx288_3)).trans hx288_3
                  replace hx288_4 := (HB.out.cell (World.block_lt_of_cell? w _ hx288_4)).trans hx288_4
                  replace hx288_5 := (HB.out.cell (World.block_lt_of_cell? w _ hx288_5)).trans hx288_5
                  replace hx288_6 := (HB.out.cell (World.block_lt_of_cell? w _ hx288_6)).trans hx288_6
                  replace hx288_7 := (HB.out.cell (World.block_lt_of_cell? w _ hx288_7)).trans hx288_7
                  replace hx288_8 := (HB.out.cell (World.block_lt_of_cell? w _ hx288_8)).trans hx288_8
                  replace hx288_9 := (HB.out.cell (World.block_lt_of_cell? w _ hx288_9)).trans hx288_9
                  replace hx288_10 := (HB.out.cell (World.block_lt_of_cell? w _ hx288_10)).trans hx288_10
                  replace hx288_11 := (HB.out.cell (World.block_lt_of_cell? w _ hx288_11)).trans hx288_11
                  replace hx288_12 := (HB.out.cell (World.block_lt_of_cell? w _ hx288_12)).trans hx288_12
                  replace hx288_13 := (HB.out.cell (World.block_lt_of_cell? w _ hx288_13)).trans hx288_13
                  have HR288_10 := zad.mk hi288_10
                  have HC288_10 := zad.mk hl288_10
                  clear hi288_10 hl288_10
                  have HR288_11 := zad.mk hi288_11
                  have HC288_11 := zad.mk hl288_11
                  clear hi288_11 hl288_11
                  replace p288 := eq_true p288
                  replace q288 := eq_true q288
                  have ea_ := Option.some.inj (hx287_10.symm.trans hx288_10)
                  injection ea_ with ea_ en_ ec_
                  subst ea_
                  subst ec_
                  clear en_
                  have ea_ := Option.some.inj (hx287_11.symm.trans hx288_11)
                  injection ea_ with ea_ en_ ec_
                  subst ea_
                  subst ec_
                  clear en_
                  refine zcl (n := 18) (S := fun w' => w'.cell? ⟨gb281, 0, none⟩ = some (.int .i64 ((zag l0 a1).f0)) ∧ w'.cell? ⟨gb281, 1, none⟩ = some (.int .i64 ((zag l0 a1).f1.f0)) ∧ w'.cell? ⟨gb281, 2, none⟩ = some (.int .i64 ((zag l0 a1).f1.f1)) ∧ w'.cell? ⟨gb281, 3, none⟩ = some (.string ((zag l0 a1).f1.f2)) ∧ w'.cell? ⟨gb281, 4, none⟩ = some (.int .i64 ((zag l0 a1).f2)) ∧ w'.cell? ⟨gb281, 5, none⟩ = some (.int .i64 ((zag l0 a1).f3)) ∧ w'.cell? ⟨gb281, 6, none⟩ = some (.int .i64 ((zag l0 a1).f4.f0)) ∧ w'.cell? ⟨gb281, 7, none⟩ = some (.int .i64 ((zag l0 a1).f4.f1)) ∧ w'.cell? ⟨gb281, 8, none⟩ = some (.string ((zag l0 a1).f4.f2)) ∧ w'.cell? ⟨gb281, 9, none⟩ = some (.int .i64 ((zag l0 a1).f5)) ∧ w'.cell? ⟨gb281, 10, none⟩ = some (.slice A280_10 ((zag l0 a1).f6).length c280_10) ∧ w'.cell? ⟨gb281, 11, none⟩ = some (.slice A280_11 ((zag l0 a1).f7).length c280_11) ∧ w'.cell? ⟨gb281, 12, none⟩ = some (.bool ((zag l0 a1).f8)) ∧ w'.cell? ⟨gb281, 13, none⟩ = some (.string ((zag l0 a1).f9)) ∧ w'.cell? (ad280.add ((t284).toNat * 14)) = some (.int .i64 ((zag l0 t284).f0)) ∧ w'.cell? ⟨(ad280.add ((t284).toNat * 14)).block, (ad280.add ((t284).toNat * 14)).off + 1, none⟩ = some (.int .i64 ((zag l0 t284).f1.f0)) ∧ w'.cell? ⟨(ad280.add ((t284).toNat * 14)).block, (ad280.add ((t284).toNat * 14)).off + 2, none⟩ = some (.int .i64 ((zag l0 t284).f1.f1)) ∧ w'.cell? ⟨(ad280.add ((t284).toNat * 14)).block, (ad280.add ((t284).toNat * 14)).off + 3, none⟩ = some (.string ((zag l0 t284).f1.f2)) ∧ w'.cell? ⟨(ad280.add ((t284).toNat * 14)).block, (ad280.add ((t284).toNat * 14)).off + 4, none⟩ = some (.int .i64 ((zag l0 t284).f2)) ∧ w'.cell? ⟨(ad280.add ((t284).toNat * 14)).block, (ad280.add ((t284).toNat * 14)).off + 5, none⟩ = some (.int .i64 ((zag l0 t284).f3)) ∧ w'.cell? ⟨(ad280.add ((t284).toNat * 14)).block, (ad280.add ((t284).toNat * 14)).off + 6, none⟩ = some (.int .i64 ((zag l0 t284).f4.f0)) ∧ w'.cell? ⟨(ad280.add ((t284).toNat * 14)).block, (ad280.add ((t284).toNat * 14)).off + 7, none⟩ = some (.int .i64 ((zag l0 t284).f4.f1)) ∧ w'.cell? ⟨(ad280.add ((t284).toNat * 14)).block, (ad280.add ((t284).toNat * 14)).off + 8, none⟩ = some (.string ((zag l0 t284).f4.f2)) ∧ w'.cell? ⟨(ad280.add ((t284).toNat * 14)).block, (ad280.add ((t284).toNat * 14)).off + 9, none⟩ = some (.int .i64 ((zag l0 t284).f5)) ∧ w'.cell? ⟨(ad280.add ((t284).toNat * 14)).block, (ad280.add ((t284).toNat * 14)).off + 10, none⟩ = some (.slice A287_10 ((zag l0 t284).f6).length c287_10) ∧ w'.cell? ⟨(ad280.add ((t284).toNat * 14)).block, (ad280.add ((t284).toNat * 14)).off + 11, none⟩ = some (.slice A287_11 ((zag l0 t284).f7).length c287_11) ∧ w'.cell? ⟨(ad280.add ((t284).toNat * 14)).block, (ad280.add ((t284).toNat * 14)).off + 12, none⟩ = some (.bool ((zag l0 t284).f8)) ∧ w'.cell? ⟨(ad280.add ((t284).toNat * 14)).block, (ad280.add ((t284).toNat * 14)).off + 13, none⟩ = some (.string ((zag l0 t284).f9)) ∧ w'.cell? (ad280.add ((t284).toNat * 14)) = some (.int .i64 ((zag l0 t284).f0)) ∧ w'.cell? ⟨(ad280.add ((t284).toNat * 14)).block, (ad280.add ((t284).toNat * 14)).off + 1, none⟩ = some (.int .i64 ((zag l0 t284).f1.f0)) ∧ w'.cell? ⟨(ad280.add ((t284).toNat * 14)).block, (ad280.add ((t284).toNat * 14)).off + 2, none⟩ = some (.int .i64 ((zag l0 t284).f1.f1)) ∧ w'.cell? ⟨(ad280.add ((t284).toNat * 14)).block, (ad280.add ((t284).toNat * 14)).off + 3, none⟩ = some (.string ((zag l0 t284).f1.f2)) ∧ w'.cell? ⟨(ad280.add ((t284).toNat * 14)).block, (ad280.add ((t284).toNat * 14)).off + 4, none⟩ = some (.int .i64 ((zag l0 t284).f2)) ∧ w'.cell? ⟨(ad280.add ((t284).toNat * 14)).block, (ad280.add ((t284).toNat * 14)).off + 5, none⟩ = some (.int .i64 ((zag l0 t284).f3)) ∧ w'.cell? ⟨(ad280.add ((t284).toNat * 14)).block, (ad280.add ((t284).toNat * 14)).off + 6, none⟩ = some (.int .i64 ((zag l0 t284).f4.f0)) ∧ w'.cell? ⟨(ad280.add ((t284).toNat * 14)).block, (ad280.add ((t284).toNat * 14)).off + 7, none⟩ = some (.int .i64 ((zag l0 t284).f4.f1)) ∧ w'.cell? ⟨(ad280.add ((t284).toNat * 14)).block, (ad280.add ((t284).toNat * 14)).off + 8, none⟩ = some (.string ((zag l0 t284).f4.f2)) ∧ w'.cell? ⟨(ad280.add ((t284).toNat * 14)).block, (ad280.add ((t284).toNat * 14)).off + 9, none⟩ = some (.int .i64 ((zag l0 t284).f5)) ∧ w'.cell? ⟨(ad280.add ((t284).toNat * 14)).block, (ad280.add ((t284).toNat * 14)).off + 10, none⟩ = some (.slice A287_10 ((zag l0 t284).f6).length c287_10) ∧ w'.cell? ⟨(ad280.add ((t284).toNat * 14)).block, (ad280.add ((t284).toNat * 14)).off + 11, none⟩ = some (.slice A287_11 ((zag l0 t284).f7).length c287_11) ∧ w'.cell? ⟨(ad280.add ((t284).toNat * 14)).block, (ad280.add ((t284).toNat * 14)).off + 12, none⟩ = some (.bool ((zag l0 t284).f8)) ∧ w'.cell? ⟨(ad280.add ((t284).toNat * 14)).block, (ad280.add ((t284).toNat * 14)).off + 13, none⟩ = some (.string ((zag l0 t284).f9))) (ds := []) #[false, false, false, false, false, false, false, false, false, false, false, false, false, false, false, false, false, false] (by kernel_rfl) rfl rfl ⟨(zae BK281.out 0).trans rfl, (zae BK281.out 1).trans rfl, (zae BK281.out 2).trans rfl, (zae BK281.out 3).trans rfl, (zae BK281.out 4).trans rfl, (zae BK281.out 5).trans rfl, (zae BK281.out 6).trans rfl, (zae BK281.out 7).trans rfl, (zae BK281.out 8).trans rfl, (zae BK281.out 9).trans rfl, (zae BK281.out 10).trans rfl, (zae BK281.out 11).trans rfl, (zae BK281.out 12).trans rfl, (zae BK281.out 13).trans rfl, ((HB.out.cell (World.block_lt_of_cell? w _ hw287_0)).trans hw287_0), ((HB.out.cell (World.block_lt_of_cell? w _ hw287_1)).trans hw287_1), ((HB.out.cell (World.block_lt_of_cell? w _ hw287_2)).trans hw287_2), ((HB.out.cell (World.block_lt_of_cell? w _ hw287_3)).trans hw287_3), ((HB.out.cell (World.block_lt_of_cell? w _ hw287_4)).trans hw287_4), ((HB.out.cell (World.block_lt_of_cell? w _ hw287_5)).trans hw287_5), ((HB.out.cell (World.block_lt_of_cell? w _ hw287_6)).trans hw287_6), ((HB.out.cell (World.block_lt_of_cell? w _ hw287_7)).trans hw287_7), ((HB.out.cell (World.block_lt_of_cell? w _ hw287_8)).trans hw287_8), ((HB.out.cell (World.block_lt_of_cell? w _ hw287_9)).trans hw287_9), ((HB.out.cell (World.block_lt_of_cell? w _ hw287_10)).trans hw287_10), ((HB.out.cell (World.block_lt_of_cell? w _ hw287_11)).trans hw287_11), ((HB.out.cell (World.block_lt_of_cell? w _ hw287_12)).trans hw287_12), ((HB.out.cell (World.block_lt_of_cell? w _ hw287_13)).trans hw287_13), ((HB.out.cell (World.block_lt_of_cell? w _ hw288_0)).trans hw288_0), ((HB.out.cell (World.block_lt_of_cell? w _ hw288_1)).trans hw288_1), ((HB.out.cell (World.block_lt_of_cell? w _ hw288_2)).trans hw288_2), ((HB.out.cell (World.block_lt_of_cell? w _ hw288_3)).trans hw288_3), ((HB.out.cell (World.block_lt_of_cell? w _ hw288_4)).trans hw288_4), ((HB.out.cell (World.block_lt_of_cell? w _ hw288_5)).trans hw288_5), ((HB.out.cell (World.block_lt_of_cell? w _ hw288_6)).trans hw288_6), ((HB.out.cell (World.block_lt_of_cell? w _ hw288_7)).trans hw288_7), ((HB.out.cell (World.block_lt_of_cell? w _ hw288_8)).trans hw288_8), ((HB.out.cell (World.block_lt_of_cell? w _ hw288_9)).trans hw288_9), ((HB.out.cell (World.block_lt_of_cell? w _ hw288_10)).trans hw288_10), ((HB.out.cell (World.block_lt_of_cell? w _ hw288_11)).trans hw288_11), ((HB.out.cell (World.block_lt_of_cell? w _ hw288_12)).trans hw288_12), ((HB.out.cell (World.block_lt_of_cell? w _ hw288_13)).trans hw288_13)⟩ (fun hHeld => ?_); refine zcc zao.tab18 zao.bits18 (fun HT_ HW_ => ?_)
                  generalize wc.drew = w41 at BK281 HB HR287_10 HR287_11 HR288_10 HR288_11 hx287_0 hx287_1 hx287_10 hx287_11 hx287_12 hx287_13 hx287_2 hx287_3 hx287_4 hx287_5 hx287_6 hx287_7 hx287_8 hx287_9 hx288_0 hx288_1 hx288_10 hx288_11 hx288_12 hx288_13 hx288_2 hx288_3 hx288_4 hx288_5 hx288_6 hx288_7 hx288_8 hx288_9 hHeld ⊢
                  refine pure_ (i := 0) (N := some 69) (v := ?_) (a' := ?_) #[true, false, false, false, false, false, false, false, false, false, false, false, false, false, false, false, false, false] rfl rfl (zax HT_.out (by kernel_rfl)) (fun _ _ _ h => h) (Or.inl ⟨by rfl, ?_⟩) ?_ ?_; rotate_left; (intro w'; go_simp; with_reducible rfl); rotate_left; (simp only [Act.put, List.setIfInBounds_toArray, List.set_cons_zero, List.set_cons_succ, i64_w]; rfl)
                  refine pure_ (i := 1) (N := some 70) (v := ?_) (a' := ?_) #[true, true, false, false, false, false, false, false, false, false, false, false, false, false, false, false, false, false] rfl rfl (zax HT_.out (by kernel_rfl)) (fun _ _ _ h => h) (Or.inl ⟨by rfl, ?_⟩) ?_ ?_; rotate_left; (intro w'; go_simp; with_reducible rfl); rotate_left; (simp only [Act.put, List.setIfInBounds_toArray, List.set_cons_zero, List.set_cons_succ, i64_w]; rfl)
                  refine pure_ (i := 2) (N := some 71) (v := ?_) (a' := ?_) #[true, true, true, false, false, false, false, false, false, false, false, false, false, false, false, false, false, false] rfl rfl (zax HT_.out (by kernel_rfl)) (fun _ _ _ h => h) (Or.inl ⟨by rfl, ?_⟩) ?_ ?_; rotate_left; (intro w'; go_simp; with_reducible rfl); rotate_left; (simp only [Act.put, List.setIfInBounds_toArray, List.set_cons_zero, List.set_cons_succ, i64_w]; rfl)
                  refine pure_ (i := 3) (N := some 72) (v := ?_) (a' := ?_) #[true, true, true, true, false, false, false, false, false, false, false, false, false, false, false, false, false, false] rfl rfl (zax HT_.out (by kernel_rfl)) (fun _ _ _ h => h) (Or.inl ⟨by rfl, ?_⟩) ?_ ?_; rotate_left; (intro w'; go_simp; with_reducible rfl); rotate_left; (simp only [Act.put, List.setIfInBounds_toArray, List.set_cons_zero, List.set_cons_succ, i64_w]; rfl)
                  refine pure_ (i := 5) (N := some 74) (v := ?_) (a' := ?_) #[true, true, true, true, false, true, false, false, false, false, false, false, false, false, false, false, false, false] rfl rfl (zax HT_.out (by kernel_rfl)) (fun _ _ _ h => h) (Or.inl ⟨by rfl, ?_⟩) ?_ ?_; rotate_left; (intro w'; go_simp; with_reducible rfl); rotate_left; (simp only [Act.put, List.setIfInBounds_toArray, List.set_cons_zero, List.set_cons_succ, i64_w]; rfl)
                  refine pure_ (i := 6) (N := some 75) (v := ?_) (a' := ?_) #[true, true, true, true, false, true, true, false, false, false, false, false, false, false, false, false, false, false] rfl rfl (zax HT_.out (by kernel_rfl)) (fun _ _ _ h => h) (Or.inl ⟨by rfl, ?_⟩) ?_ ?_; rotate_left; (intro w'; go_simp; with_reducible rfl); rotate_left; (simp only [Act.put, List.setIfInBounds_toArray, List.set_cons_zero, List.set_cons_succ, i64_w]; rfl)
                  refine pure_ (i := 7) (N := some 76) (v := ?_) (a' := ?_) #[true, true, true, true, false, true, true, true, false, false, false, false, false, false, false, false, false, false] rfl rfl (zax HT_.out (by kernel_rfl)) (fun _ _ _ h => h) (Or.inl ⟨by rfl, ?_⟩) ?_ ?_; rotate_left; (intro w'; go_simp; with_reducible rfl); rotate_left; (simp only [Act.put, List.setIfInBounds_toArray, List.set_cons_zero, List.set_cons_succ, i64_w]; rfl)
                  refine pure_ (i := 8) (N := some 77) (v := ?_) (a' := ?_) #[true, true, true, true, false, true, true, true, true, false, false, false, false, false, false, false, false, false] rfl rfl (zax HT_.out (by kernel_rfl)) (fun _ _ _ h => h) (Or.inl ⟨by rfl, ?_⟩) ?_ ?_; rotate_left; (intro w'; go_simp; with_reducible rfl); rotate_left; (simp only [Act.put, List.setIfInBounds_toArray, List.set_cons_zero, List.set_cons_succ, i64_w]; rfl)
                  refine pure_ (i := 10) (N := some 79) (v := ?_) (a' := ?_) #[true, true, true, true, false, true, true, true, true, false, true, false, false, false, false, false, false, false] rfl rfl (zax HT_.out (by kernel_rfl)) (fun _ _ _ h => h) (Or.inl ⟨by rfl, ?_⟩) ?_ ?_; rotate_left; (intro w'; go_simp; with_reducible rfl); rotate_left; (simp only [Act.put, List.setIfInBounds_toArray, List.set_cons_zero, List.set_cons_succ, i64_w]; rfl)
                  refine take_ (i := 4) (N := some 73) (v := ?_) (a' := ?_) #[true, true, true, true, true, true, true, true, true, false, true, false, false, false, false, false, false, false] rfl rfl (zbo HT_.out HW_.out (by kernel_rfl)) (fun _ _ _ h => h) (Or.inl ⟨by rfl, ?_⟩) hHeld ?_ ?_; rotate_left; (rintro w' ⟨s0, s1, s2, s3, s4, s5, s6, s7, s8, s9, s10, s11, s12, s13, s14, s15, s16, s17, s18, s19, s20, s21, s22, s23, s24, s25, s26, s27, s28, s29, s30, s31, s32, s33, s34, s35, s36, s37, s38, s39, s40, s41⟩; go_simp; with_reducible rfl); rotate_left; (simp only [Act.put, List.setIfInBounds_toArray, List.set_cons_zero, List.set_cons_succ, i64_w]; rfl)
                  refine take_ (i := 9) (N := some 78) (v := ?_) (a' := ?_) #[true, true, true, true, true, true, true, true, true, true, true, false, false, false, false, false, false, false] rfl rfl (zbo HT_.out HW_.out (by kernel_rfl)) (fun _ _ _ h => h) (Or.inl ⟨by rfl, ?_⟩) hHeld ?_ ?_; rotate_left; (rintro w' ⟨s0, s1, s2, s3, s4, s5, s6, s7, s8, s9, s10, s11, s12, s13, s14, s15, s16, s17, s18, s19, s20, s21, s22, s23, s24, s25, s26, s27, s28, s29, s30, s31, s32, s33, s34, s35, s36, s37, s38, s39, s40, s41⟩; go_simp; with_reducible rfl); rotate_left; (simp only [Act.put, List.setIfInBounds_toArray, List.set_cons_zero, List.set_cons_succ, i64_w]; rfl)
                  refine take_ (i := 11) (N := some 80) (v := ?_) (a' := ?_) #[true, true, true, true, true, true, true, true, true, true, true, true, false, false, false, false, false, false] rfl rfl (zbo HT_.out HW_.out (by kernel_rfl)) (fun _ _ _ h => h) (Or.inl ⟨by rfl, ?_⟩) hHeld ?_ ?_; rotate_left; (rintro w' ⟨s0, s1, s2, s3, s4, s5, s6, s7, s8, s9, s10, s11, s12, s13, s14, s15, s16, s17, s18, s19, s20, s21, s22, s23, s24, s25, s26, s27, s28, s29, s30, s31, s32, s33, s34, s35, s36, s37, s38, s39, s40, s41⟩; go_simp; with_reducible rfl); rotate_left; (simp only [Act.put, List.setIfInBounds_toArray, List.set_cons_zero, List.set_cons_succ, i64_w]; rfl)
                  refine one_ (i := 12) (N := some 81) #[true, true, true, true, true, true, true, true, true, true, true, true, true, false, false, false, false, false] rfl rfl (one_of HT_.out (by kernel_rfl)) (by decide) (fun K hK => ?_)
                  refine goes_ Tryd.func31 (by kernel_rfl) rfl #[.int .i64 ((zag l0 t284).f3), .int .i64 ((zag l0 t284).f5), .slice A280_11 ((zag l0 a1).f7).length c280_11] (by rfl) rfl rfl (by (try simp only [List.map_toArray, List.map_cons, List.map_nil]); first | done | rfl | (simp only [List.length_drop, List.length_take]; rfl)) ?_
                  with_reducible refine (zat.calls kj23 ((zag l0 t284).f3) ((zag l0 t284).f5) _ _ ((zag l0 a1).f7) t289 true _ ?side1 ?side2 A38.out).mono ?_
                  (case side1 => repeat (first | exact (Kd.zbn HR280_11.out HB.out) | (with_reducible refine Kd.zb7 ?_ _) | (with_reducible refine Kd.C_drewN ?_ _) | (with_reducible refine Kd.C_drew ?_)))
                  (case side2 => exact HC280_11.out)
                  rintro e w42 ⟨v291, rfl, ho0, hb⟩
                  refine ⟨_, rfl, ?_⟩
                  have n0_ := zad.mk (Kd.zb5 ho0 (zas (by repeat (first | (with_reducible first | exact HB.out | apply zac | apply zaa | apply zab | refine zaf ?_ GE281.out) | exact HB.out))))
                  have n1_ := zad.mk (zav (g := gb281) (o := .cells #[.int .i64 ((zag l0 a1).f0), .int .i64 ((zag l0 a1).f1.f0), .int .i64 ((zag l0 a1).f1.f1), .string ((zag l0 a1).f1.f2), .int .i64 ((zag l0 a1).f2), .int .i64 ((zag l0 a1).f3), .int .i64 ((zag l0 a1).f4.f0), .int .i64 ((zag l0 a1).f4.f1), .string ((zag l0 a1).f4.f2), .int .i64 ((zag l0 a1).f5), .slice A280_10 ((zag l0 a1).f6).length c280_10, .slice A280_11 ((zag l0 a1).f7).length c280_11, .bool ((zag l0 a1).f8), .string ((zag l0 a1).f9)] 47 (0, 0)) (by (with_reducible repeat (first | refine zah ?_ _ | refine zaj ?_ | refine zai ?_ _)); exact BK281.out) hb)
                  have n2_ := zad.mk (zaq (by repeat (first | (with_reducible first | exact HB.out | apply zac | apply zaa | apply zab | refine zaf ?_ GE281.out) | exact HB.out)) hb)
                  clear BK281
                  clear HB
                  have HO292 := n0_
                  have BK281 := n1_
                  have HB := n2_
                  clear n0_ n1_ n2_
                  try clear hb
                  try clear hb2
                  try clear hk
                  try clear hi
                  try clear ho0
                  refine hK.out _ _ ⟨(zae BK281.out 0).trans rfl, (zae BK281.out 1).trans rfl, (zae BK281.out 2).trans rfl, (zae BK281.out 3).trans rfl, (zae BK281.out 4).trans rfl, (zae BK281.out 5).trans rfl, (zae BK281.out 6).trans rfl, (zae BK281.out 7).trans rfl, (zae BK281.out 8).trans rfl, (zae BK281.out 9).trans rfl, (zae BK281.out 10).trans rfl, (zae BK281.out 11).trans rfl, (zae BK281.out 12).trans rfl, (zae BK281.out 13).trans rfl, ((HB.out.cell (World.block_lt_of_cell? w _ hw287_0)).trans hw287_0), ((HB.out.cell (World.block_lt_of_cell? w _ hw287_1)).trans hw287_1), ((HB.out.cell (World.block_lt_of_cell? w _ hw287_2)).trans hw287_2), ((HB.out.cell (World.block_lt_of_cell? w _ hw287_3)).trans hw287_3), ((HB.out.cell (World.block_lt_of_cell? w _ hw287_4)).trans hw287_4), ((HB.out.cell (World.block_lt_of_cell? w _ hw287_5)).trans hw287_5), ((HB.out.cell (World.block_lt_of_cell? w _ hw287_6)).trans hw287_6), ((HB.out.cell (World.block_lt_of_cell? w _ hw287_7)).trans hw287_7), ((HB.out.cell (World.block_lt_of_cell? w _ hw287_8)).trans hw287_8), ((HB.out.cell (World.block_lt_of_cell? w _ hw287_9)).trans hw287_9), ((HB.out.cell (World.block_lt_of_cell? w _ hw287_10)).trans hw287_10), ((HB.out.cell (World.block_lt_of_cell? w _ hw287_11)).trans hw287_11), ((HB.out.cell (World.block_lt_of_cell? w _ hw287_12)).trans hw287_12), ((HB.out.cell (World.block_lt_of_cell? w _ hw287_13)).trans hw287_13), ((HB.out.cell (World.block_lt_of_cell? w _ hw288_0)).trans hw288_0), ((HB.out.cell (World.block_lt_of_cell? w _ hw288_1)).trans hw288_1), ((HB.out.cell (World.block_lt_of_cell? w _ hw288_2)).trans hw288_2), ((HB.out.cell (World.block_lt_of_cell? w _ hw288_3)).trans hw288_3), ((HB.out.cell (World.block_lt_of_cell? w _ hw288_4)).trans hw288_4), ((HB.out.cell (World.block_lt_of_cell? w _ hw288_5)).trans hw288_5), ((HB.out.cell (World.block_lt_of_cell? w _ hw288_6)).trans hw288_6), ((HB.out.cell (World.block_lt_of_cell? w _ hw288_7)).trans hw288_7), ((HB.out.cell (World.block_lt_of_cell? w _ hw288_8)).trans hw288_8), ((HB.out.cell (World.block_lt_of_cell? w _ hw288_9)).trans hw288_9), ((HB.out.cell (World.block_lt_of_cell? w _ hw288_10)).trans hw288_10), ((HB.out.cell (World.block_lt_of_cell? w _ hw288_11)).trans hw288_11), ((HB.out.cell (World.block_lt_of_cell? w _ hw288_12)).trans hw288_12), ((HB.out.cell (World.block_lt_of_cell? w _ hw288_13)).trans hw288_13)⟩ (fun hHeld => ?_)
                  clear hK K
                  refine norm_ (a' := ?_) ?_ ?_
                  rotate_left
                  ·show Act.put _ (some 81) _ = _
                   simp only [Act.put, List.setIfInBounds_toArray, List.set_cons_zero, List.set_cons_succ, i64_w]
                   rfl
                  refine pure_ (i := 13) (N := some 68) (v := ?_) (a' := ?_) #[true, true, true, true, true, true, true, true, true, true, true, true, true, true, false, false, false, false] rfl rfl (zax HT_.out (by kernel_rfl)) (fun _ _ _ h => h) (Or.inl ⟨by rfl, ?_⟩) ?_ ?_; rotate_left; (intro w'; go_simp; with_reducible rfl); rotate_left; (simp only [Act.put, List.setIfInBounds_toArray, List.set_cons_zero, List.set_cons_succ, i64_w]; rfl)
                  refine pure_ (i := 14) (N := some 82) (v := ?_) (a' := ?_) #[true, true, true, true, true, true, true, true, true, true, true, true, true, true, true, false, false, false] rfl rfl (zax HT_.out (by kernel_rfl)) (fun _ _ _ h => h) (Or.inl ⟨by rfl, ?_⟩) ?_ ?_; rotate_left; (intro w'; go_simp; with_reducible rfl); rotate_left; (simp only [Act.put, List.setIfInBounds_toArray, List.set_cons_zero, List.set_cons_succ, i64_w]; rfl)
                  refine pure_ (i := 15) (N := some 83) (v := ?_) (a' := ?_) #[true, true, true, true, true, true, true, true, true, true, true, true, true, true, true, true, false, false] rfl rfl (zax HT_.out (by kernel_rfl)) (fun _ _ _ h => h) (Or.inl ⟨by rfl, ?_⟩) ?_ ?_; rotate_left; (intro w'; go_simp; with_reducible rfl); rotate_left; (simp only [Act.put, List.setIfInBounds_toArray, List.set_cons_zero, List.set_cons_succ, i64_w]; rfl)
                  refine pure_ (i := 16) (N := some 9) (v := ?_) (a' := ?_) #[true, true, true, true, true, true, true, true, true, true, true, true, true, true, true, true, true, false] rfl rfl (zax HT_.out (by kernel_rfl)) (fun _ _ _ h => h) (Or.inl ⟨by rfl, ?_⟩) ?_ ?_; rotate_left; (intro w'; go_simp; with_reducible rfl); rotate_left; (simp only [Act.put, List.setIfInBounds_toArray, List.set_cons_zero, List.set_cons_succ, i64_w]; rfl)
                  refine pure_ (i := 17) (N := some 10) (v := ?_) (a' := ?_) #[true, true, true, true, true, true, true, true, true, true, true, true, true, true, true, true, true, true] rfl rfl (zax HT_.out (by kernel_rfl)) (fun _ _ _ h => h) (Or.inl ⟨by rfl, ?_⟩) ?_ ?_; rotate_left; (intro w'; go_simp; with_reducible rfl); rotate_left; (simp only [Act.put, List.setIfInBounds_toArray, List.set_cons_zero, List.set_cons_succ, i64_w]; rfl)
                  refine done_ (zcp HT_.out (by kernel_rfl)) ?_
                  try go_wp2
                  go_ret
                  exact ⟨by first | rfl | (simp [zam, zal] <;> rfl) | (simp [*, zam, zal] <;> rfl), by repeat (first | (with_reducible first | exact HB.out | apply zac | apply zaa | apply zab | refine zaf ?_ GE281.out) | exact HB.out)⟩
                 ·replace c39 := Bool.eq_false_iff.mpr c39
                  subst c39
                  have H1 : (some 4) = some r := by rw [if_neg (show ¬ (false = true) by decide)] at H; exact H
                  clear H
                  have H := H1
                  clear H1
                  obtain rfl := Option.some.inj H
                  obtain ⟨hcz43_0, hcz43_1, hcz43_2, hcz43_3, hcz43_4, hcz43_5, hcz43_6, hcz43_7, hcz43_8, hcz43_9, hcz43_10, hcz43_11, hcz43_12, hcz43_13⟩ := cq14 BK281.out
                  obtain ⟨hfz43_0, hfz43_1, hfz43_2, hfz43_3, hfz43_4, hfz43_5, hfz43_6, hfz43_7, hfz43_8, hfz43_9, hfz43_10, hfz43_11, hfz43_12, hfz43_13⟩ := fq14 BK281.out
                  try go_wp2
                  have n0_ := zad.mk (zaj BK281.out)
                  have n1_ := zad.mk (zab HB.out)
                  clear BK281
                  clear HB
                  have BK281 := n0_
                  have HB := n1_
                  clear n0_ n1_
                  have p287 : 0 ≤ (t284 : Int) := of_decide_eq_true (by first | (with_reducible assumption) | assumption)
                  have q287 : t284 < (l0.length : Int) := of_decide_eq_true (by first | (with_reducible assumption) | assumption)
                  obtain ⟨ad287, A287_10, c287_10, A287_11, c287_11, e287, hx287_0, hx287_1, hx287_2, hx287_3, hx287_4, hx287_5, hx287_6, hx287_7, hx287_8, hx287_9, hx287_10, hx287_11, hx287_12, hx287_13, hl287_10, hi287_10, hl287_11, hi287_11⟩ := zcv HR0.out t284 p287 q287
                  have hw287_13 := hx287_13
                  have hw287_12 := hx287_12
                  have hw287_11 := hx287_11
                  have hw287_10 := hx287_10
                  have hw287_9 := hx287_9
                  have hw287_8 := hx287_8
                  have hw287_7 := hx287_7
                  have hw287_6 := hx287_6
                  have hw287_5 := hx287_5
                  have hw287_4 := hx287_4
                  have hw287_3 := hx287_3
                  have hw287_2 := hx287_2
                  have hw287_1 := hx287_1
                  have hw287_0 := hx287_0
                  obtain rfl : ad280 = ad287 := (by injection e287)
                  replace hx287_0 := (HB.out.cell (World.block_lt_of_cell? w _ hx287_0)).trans hx287_0
                  replace hx287_1 := (HB.out.cell (World.block_lt_of_cell? w _ hx287_1)).trans hx287_1
                  replace hx287_2 := (HB.out.cell (World.block_lt_of_cell? w _ hx287_2)).trans hx287_2
                  replace hx287_3 := (HB.out.cell (World.block_lt_of_cell? w _ hx287_3)).trans hx287_3
                  replace hx287_4 := (HB.out.cell (World.block_lt_of_cell? w _ hx287_4)).trans hx287_4
                  replace hx287_5 := (HB.out.cell (World.block_lt_of_cell? w _ hx287_5)).trans hx287_5
                  replace hx287_6 := (HB.out.cell (World.block_lt_of_cell? w _ hx287_6)).trans hx287_6
                  replace hx287_7 := (HB.out.cell (World.block_lt_of_cell? w _ hx287_7)).trans hx287_7
                  replace hx287_8 := (HB.out.cell (World.block_lt_of_cell? w _ hx287_8)).trans hx287_8
                  replace hx287_9 := (HB.out.cell (World.block_lt_of_cell? w _ hx287_9)).trans hx287_9
                  replace hx287_10 := (HB.out.cell (World.block_lt_of_cell? w _ hx287_10)).trans hx287_10
                  replace hx287_11 := (HB.out.cell (World.block_lt_of_cell? w _ hx287_11)).trans hx287_11
                  replace hx287_12 := (HB.out.cell (World.block_lt_of_cell? w _ hx287_12)).trans hx287_12
                  replace hx287_13 := (HB.out.cell (World.block_lt_of_cell? w _ hx287_13)).trans hx287_13
                  have HR287_10 := zad.mk hi287_10
                  have HC287_10 := zad.mk hl287_10
                  clear hi287_10 hl287_10
                  have HR287_11 := zad.mk hi287_11
                  have HC287_11 := zad.mk hl287_11
                  clear hi287_11 hl287_11
                  replace p287 := eq_true p287
                  replace q287 := eq_true q287
                  have p288 : 0 ≤ (t284 : Int) := of_decide_eq_true (by first | (with_reducible assumption) | assumption)
                  have q288 : t284 < (l0.length : Int) := of_decide_eq_true (by first | (with_reducible assumption) | assumption)
                  obtain ⟨ad288, A288_10, c288_10, A288_11, c288_11, e288, hx288_0, hx288_1, hx288_2, hx288_3, hx288_4, hx288_5, hx288_6, hx288_7, hx288_8, hx288_9, hx288_10, hx288_11, hx288_12, hx288_13, hl288_10, hi288_10, hl288_11, hi288_11⟩ := zcv HR0.out t284 p288 q288
                  have hw288_13 := hx288_13
                  have hw288_12 := hx288_12
                  have hw288_11 := hx288_11
                  have hw288_10 := hx288_10
                  have hw288_9 := hx288_9
                  have hw288_8 := hx288_8
                  have hw288_7 := hx288_7
                  have hw288_6 := hx288_6
                  have hw288_5 := hx288_5
                  have hw288_4 := hx288_4
                  have hw288_3 := hx288_3
                  have hw288_2 := hx288_2
                  have hw288_1 := hx288_1
                  have hw288_0 := hx288_0
                  obtain rfl : ad280 = ad288 := (by injection e288)
                  replace hx288_0 := (HB.out.cell (World.block_lt_of_cell? w _ hx288_0)).trans hx288_0
                  replace hx288_1 := (HB.out.cell (World.block_lt_of_cell? w _ hx288_1)).trans hx288_1
                  replace hx288_2 := (HB.out.cell (World.block_lt_of_cell? w _ hx288_2)).trans hx288_2
                  replace hx288_3 := (HB.out.cell (World.block_lt_of_cell? w _ hx288_3)).trans hx288_3
                  replace hx288_4 := (HB.out.cell (World.block_lt_of_cell? w _ hx288_4)).trans hx288_4
                  replace hx288_5 := (HB.out.cell (World.block_lt_of_cell? w _ hx288_5)).trans hx288_5
                  replace hx288_6 := (HB.out.cell (World.block_lt_of_cell? w _ hx288_6)).trans hx288_6
                  replace hx288_7 := (HB.out.cell (World.block_lt_of_cell? w _ hx288_7)).trans hx288_7
                  replace hx288_8 := (HB.out.cell (World.block_lt_of_cell? w _ hx288_8)).trans hx288_8
                  replace hx288_9 := (HB.out.cell (World.block_lt_of_cell? w _ hx288_9)).trans hx288_9
                  replace hx288_10 := (HB.out.cell (World.block_lt_of_cell? w _ hx288_10)).trans hx288_10
                  replace hx288_11 := (HB.out.cell (World.block_lt_of_cell? w _ hx288_11)).trans hx288_11
                  replace hx288_12 := (HB.out.cell (World.block_lt_of_cell? w _ hx288_12)).trans hx288_12
                  replace hx288_13 := (HB.out.cell (World.block_lt_of_cell? w _ hx288_13)).trans hx288_13
                  have HR288_10 := zad.mk hi288_10
                  have HC288_10 := zad.mk hl288_10
                  clear hi288_10 hl288_10
                  have HR288_11 := zad.mk hi288_11
                  have HC288_11 := zad.mk hl288_11
                  clear hi288_11 hl288_11
                  replace p288 := eq_true p288
                  replace q288 := eq_true q288
                  have ea_ := Option.some.inj (hx287_10.symm.trans hx288_10)
                  injection ea_ with ea_ en_ ec_
                  subst ea_
                  subst ec_
                  clear en_
                  have ea_ := Option.some.inj (hx287_11.symm.trans hx288_11)
                  injection ea_ with ea_ en_ ec_
                  subst ea_
                  subst ec_
                  clear en_
                  refine zcl (n := 18) (S := fun w' => w'.cell? ⟨gb281, 0, none⟩ = some (.int .i64 ((zag l0 a1).f0)) ∧ w'.cell? ⟨gb281, 1, none⟩ = some (.int .i64 ((zag l0 a1).f1.f0)) ∧ w'.cell? ⟨gb281, 2, none⟩ = some (.int .i64 ((zag l0 a1).f1.f1)) ∧ w'.cell? ⟨gb281, 3, none⟩ = some (.string ((zag l0 a1).f1.f2)) ∧ w'.cell? ⟨gb281, 4, none⟩ = some (.int .i64 ((zag l0 a1).f2)) ∧ w'.cell? ⟨gb281, 5, none⟩ = some (.int .i64 ((zag l0 a1).f3)) ∧ w'.cell? ⟨gb281, 6, none⟩ = some (.int .i64 ((zag l0 a1).f4.f0)) ∧ w'.cell? ⟨gb281, 7, none⟩ = some (.int .i64 ((zag l0 a1).f4.f1)) ∧ w'.cell? ⟨gb281, 8, none⟩ = some (.string ((zag l0 a1).f4.f2)) ∧ w'.cell? ⟨gb281, 9, none⟩ = some (.int .i64 ((zag l0 a1).f5)) ∧ w'.cell? ⟨gb281, 10, none⟩ = some (.slice A280_10 ((zag l0 a1).f6).length c280_10) ∧ w'.cell? ⟨gb281, 11, none⟩ = some (.slice A280_11 ((zag l0 a1).f7).length c280_11) ∧ w'.cell? ⟨gb281, 12, none⟩ = some (.bool ((zag l0 a1).f8)) ∧ w'.cell? ⟨gb281, 13, none⟩ = some (.string ((zag l0 a1).f9)) ∧ w'.cell? (ad280.add ((t284).toNat * 14)) = some (.int .i64 ((zag l0 t284).f0)) ∧ w'.cell? ⟨(ad280.add ((t284).toNat * 14)).block, (ad280.add ((t284).toNat * 14)).off + 1, none⟩ = some (.int .i64 ((zag l0 t284).f1.f0)) ∧ w'.cell? ⟨(ad280.add ((t284).toNat * 14)).block, (ad280.add ((t284).toNat * 14)).off + 2, none⟩ = some (.int .i64 ((zag l0 t284).f1.f1)) ∧ w'.cell? ⟨(ad280.add ((t284).toNat * 14)).block, (ad280.add ((t284).toNat * 14)).off + 3, none⟩ = some (.string ((zag l0 t284).f1.f2)) ∧ w'.cell? ⟨(ad280.add ((t284).toNat * 14)).block, (ad280.add ((t284).toNat * 14)).off + 4, none⟩ = some (.int .i64 ((zag l0 t284).f2)) ∧ w'.cell? ⟨(ad280.add ((t284).toNat * 14)).block, (ad280.add ((t284).toNat * 14)).off + 5, none⟩ = some (.int .i64 ((zag l0 t284).f3)) ∧ w'.cell? ⟨(ad280.add ((t284).toNat * 14)).block, (ad280.add ((t284).toNat * 14)).off + 6, none⟩ = some (.int .i64 ((zag l0 t284).f4.f0)) ∧ w'.cell? ⟨(ad280.add ((t284).toNat * 14)).block, (ad280.add ((t284).toNat * 14)).off + 7, none⟩ = some (.int .i64 ((zag l0 t284).f4.f1)) ∧ w'.cell? ⟨(ad280.add ((t284).toNat * 14)).block, (ad280.add ((t284).toNat * 14)).off + 8, none⟩ = some (.string ((zag l0 t284).f4.f2)) ∧ w'.cell? ⟨(ad280.add ((t284).toNat * 14)).block, (ad280.add ((t284).toNat * 14)).off + 9, none⟩ = some (.int .i64 ((zag l0 t284).f5)) ∧ w'.cell? ⟨(ad280.add ((t284).toNat * 14)).block, (ad280.add ((t284).toNat * 14)).off + 10, none⟩ = some (.slice A287_10 ((zag l0 t284).f6).length c287_10) ∧ w'.cell? ⟨(ad280.add ((t284).toNat * 14)).block, (ad280.add ((t284).toNat * 14)).off + 11, none⟩ = some (.slice A287_11 ((zag l0 t284).f7).length c287_11) ∧ w'.cell? ⟨(ad280.add ((t284).toNat * 14)).block, (ad280.add ((t284).toNat * 14)).off + 12, none⟩ = some (.bool ((zag l0 t284).f8)) ∧ w'.cell? ⟨(ad280.add ((t284).toNat * 14)).block, (ad280.add ((t284).toNat * 14)).off + 13, none⟩ = some (.string ((zag l0 t284).f9)) ∧ w'.cell? (ad280.add ((t284).toNat * 14)) = some (.int .i64 ((zag l0 t284).f0)) ∧ w'.cell? ⟨(ad280.add ((t284).toNat * 14)).block, (ad280.add ((t284).toNat * 14)).off + 1, none⟩ = some (.int .i64 ((zag l0 t284).f1.f0)) ∧ w'.cell? ⟨(ad280.add ((t284).toNat * 14)).block, (ad280.add ((t284).toNat * 14)).off + 2, none⟩ = some (.int .i64 ((zag l0 t284).f1.f1)) ∧ w'.cell? ⟨(ad280.add ((t284).toNat * 14)).block, (ad280.add ((t284).toNat * 14)).off + 3, none⟩ = some (.string ((zag l0 t284).f1.f2)) ∧ w'.cell? ⟨(ad280.add ((t284).toNat * 14)).block, (ad280.add ((t284).toNat * 14)).off + 4, none⟩ = some (.int .i64 ((zag l0 t284).f2)) ∧ w'.cell? ⟨(ad280.add ((t284).toNat * 14)).block, (ad280.add ((t284).toNat * 14)).off + 5, none⟩ = some (.int .i64 ((zag l0 t284).f3)) ∧ w'.cell? ⟨(ad280.add ((t284).toNat * 14)).block, (ad280.add ((t284).toNat * 14)).off + 6, none⟩ = some (.int .i64 ((zag l0 t284).f4.f0)) ∧ w'.cell? ⟨(ad280.add ((t284).toNat * 14)).block, (ad280.add ((t284).toNat * 14)).off + 7, none⟩ = some (.int .i64 ((zag l0 t284).f4.f1)) ∧ w'.cell? ⟨(ad280.add ((t284).toNat * 14)).block, (ad280.add ((t284).toNat * 14)).off + 8, none⟩ = some (.string ((zag l0 t284).f4.f2)) ∧ w'.cell? ⟨(ad280.add ((t284).toNat * 14)).block, (ad280.add ((t284).toNat * 14)).off + 9, none⟩ = some (.int .i64 ((zag l0 t284).f5)) ∧ w'.cell? ⟨(ad280.add ((t284).toNat * 14)).block, (ad280.add ((t284).toNat * 14)).off + 10, none⟩ = some (.slice A287_10 ((zag l0 t284).f6).length c287_10) ∧ w'.cell? ⟨(ad280.add ((t284).toNat * 14)).block, (ad280.add ((t284).toNat * 14)).off + 11, none⟩ = some (.slice A287_11 ((zag l0 t284).f7).length c287_11) ∧ w'.cell? ⟨(ad280.add ((t284).toNat * 14)).block, (ad280.add ((t284).toNat * 14)).off + 12, none⟩ = some (.bool ((zag l0 t284).f8)) ∧ w'.cell? ⟨(ad280.add ((t284).toNat * 14)).block, (ad280.add ((t284).toNat * 14)).off + 13, none⟩ = some (.string ((zag l0 t284).f9))) (ds := []) #[false, false, false, false, false, false, false, false, false, false, false, false, false, false, false, false, false, false] (by kernel_rfl) rfl rfl ⟨(zae BK281.out 0).trans rfl, (zae BK281.out 1).trans rfl, (zae BK281.out 2).trans rfl, (zae BK281.out 3).trans rfl, (zae BK281.out 4).trans rfl, (zae BK281.out 5).trans rfl, (zae BK281.out 6).trans rfl, (zae BK281.out 7).trans rfl, (zae BK281.out 8).trans rfl, (zae BK281.out 9).trans rfl, (zae BK281.out 10).trans rfl, (zae BK281.out 11).trans rfl, (zae BK281.out 12).trans rfl, (zae BK281.out 13).trans rfl, ((HB.out.cell (World.block_lt_of_cell? w _ hw287_0)).trans hw287_0), ((HB.out.cell (World.block_lt_of_cell? w _ hw287_1)).trans hw287_1), ((HB.out.cell (World.block_lt_of_cell? w _ hw287_2)).trans hw287_2), ((HB.out.cell (World.block_lt_of_cell? w _ hw287_3)).trans hw287_3), ((HB.out.cell (World.block_lt_of_cell? w _ hw287_4)).trans hw287_4), ((HB.out.cell (World.block_lt_of_cell? w _ hw287_5)).trans hw287_5), ((HB.out.cell (World.block_lt_of_cell? w _ hw287_6)).trans hw287_6), ((HB.out.cell (World.block_lt_of_cell? w _ hw287_7)).trans hw287_7), ((HB.out.cell (World.block_lt_of_cell? w _ hw287_8)).trans hw287_8), ((HB.out.cell (World.block_lt_of_cell? w _ hw287_9)).trans hw287_9), ((HB.out.cell (World.block_lt_of_cell? w _ hw287_10)).trans hw287_10), ((HB.out.cell (World.block_lt_of_cell? w _ hw287_11)).trans hw287_11), ((HB.out.cell (World.block_lt_of_cell? w _ hw287_12)).trans hw287_12), ((HB.out.cell (World.block_lt_of_cell? w _ hw287_13)).trans hw287_13), ((HB.out.cell (World.block_lt_of_cell? w _ hw288_0)).trans hw288_0), ((HB.out.cell (World.block_lt_of_cell? w _ hw288_1)).trans hw288_1), ((HB.out.cell (World.block_lt_of_cell? w _ hw288_2)).trans hw288_2), ((HB.out.cell (World.block_lt_of_cell? w _ hw288_3)).trans hw288_3), ((HB.out.cell (World.block_lt_of_cell? w _ hw288_4)).trans hw288_4), ((HB.out.cell (World.block_lt_of_cell? w _ hw288_5)).trans hw288_5), ((HB.out.cell (World.block_lt_of_cell? w _ hw288_6)).trans hw288_6), ((HB.out.cell (World.block_lt_of_cell? w _ hw288_7)).trans hw288_7), ((HB.out.cell (World.block_lt_of_cell? w _ hw288_8)).trans hw288_8), ((HB.out.cell (World.block_lt_of_cell? w _ hw288_9)).trans hw288_9), ((HB.out.cell (World.block_lt_of_cell? w _ hw288_10)).trans hw288_10), ((HB.out.cell (World.block_lt_of_cell? w _ hw288_11)).trans hw288_11), ((HB.out.cell (World.block_lt_of_cell? w _ hw288_12)).trans hw288_12), ((HB.out.cell (World.block_lt_of_cell? w _ hw288_13)).trans hw288_13)⟩ (fun hHeld => ?_); refine zcc zao.tab18 zao.bits18 (fun HT_ HW_ => ?_)
                  generalize wc.drew = w44 at BK281 HB HR287_10 HR287_11 HR288_10 HR288_11 hx287_0 hx287_1 hx287_10 hx287_11 hx287_12 hx287_13 hx287_2 hx287_3 hx287_4 hx287_5 hx287_6 hx287_7 hx287_8 hx287_9 hx288_0 hx288_1 hx288_10 hx288_11 hx288_12 hx288_13 hx288_2 hx288_3 hx288_4 hx288_5 hx288_6 hx288_7 hx288_8 hx288_9 hHeld ⊢
                  refine pure_ (i := 0) (N := some 69) (v := ?_) (a' := ?_) #[true, false, false, false, false, false, false, false, false, false, false, false, false, false, false, false, false, false] rfl rfl (zax HT_.out (by kernel_rfl)) (fun _ _ _ h => h) (Or.inl ⟨by rfl, ?_⟩) ?_ ?_; rotate_left; (intro w'; go_simp; with_reducible rfl); rotate_left; (simp only [Act.put, List.setIfInBounds_toArray, List.set_cons_zero, List.set_cons_succ, i64_w]; rfl)
                  refine pure_ (i := 1) (N := some 70) (v := ?_) (a' := ?_) #[true, true, false, false, false, false, false, false, false, false, false, false, false, false, false, false, false, false] rfl rfl (zax HT_.out (by kernel_rfl)) (fun _ _ _ h => h) (Or.inl ⟨by rfl, ?_⟩) ?_ ?_; rotate_left; (intro w'; go_simp; with_reducible rfl); rotate_left; (simp only [Act.put, List.setIfInBounds_toArray, List.set_cons_zero, List.set_cons_succ, i64_w]; rfl)
                  refine pure_ (i := 2) (N := some 71) (v := ?_) (a' := ?_) #[true, true, true, false, false, false, false, false, false, false, false, false, false, false, false, false, false, false] rfl rfl (zax HT_.out (by kernel_rfl)) (fun _ _ _ h => h) (Or.inl ⟨by rfl, ?_⟩) ?_ ?_; rotate_left; (intro w'; go_simp; with_reducible rfl); rotate_left; (simp only [Act.put, List.setIfInBounds_toArray, List.set_cons_zero, List.set_cons_succ, i64_w]; rfl)
                  refine pure_ (i := 3) (N := some 72) (v := ?_) (a' := ?_) #[true, true, true, true, false, false, false, false, false, false, false, false, false, false, false, false, false, false] rfl rfl (zax HT_.out (by kernel_rfl)) (fun _ _ _ h => h) (Or.inl ⟨by rfl, ?_⟩) ?_ ?_; rotate_left; (intro w'; go_simp; with_reducible rfl); rotate_left; (simp only [Act.put, List.setIfInBounds_toArray, List.set_cons_zero, List.set_cons_succ, i64_w]; rfl)
                  refine pure_ (i := 5) (N := some 74) (v := ?_) (a' := ?_) #[true, true, true, true, false, true, false, false, false, false, false, false, false, false, false, false, false, false] rfl rfl (zax HT_.out (by kernel_rfl)) (fun _ _ _ h => h) (Or.inl ⟨by rfl, ?_⟩) ?_ ?_; rotate_left; (intro w'; go_simp; with_reducible rfl); rotate_left; (simp only [Act.put, List.setIfInBounds_toArray, List.set_cons_zero, List.set_cons_succ, i64_w]; rfl)
                  refine pure_ (i := 6) (N := some 75) (v := ?_) (a' := ?_) #[true, true, true, true, false, true, true, false, false, false, false, false, false, false, false, false, false, false] rfl rfl (zax HT_.out (by kernel_rfl)) (fun _ _ _ h => h) (Or.inl ⟨by rfl, ?_⟩) ?_ ?_; rotate_left; (intro w'; go_simp; with_reducible rfl); rotate_left; (simp only [Act.put, List.setIfInBounds_toArray, List.set_cons_zero, List.set_cons_succ, i64_w]; rfl)
                  refine pure_ (i := 7) (N := some 76) (v := ?_) (a' := ?_) #[true, true, true, true, false, true, true, true, false, false, false, false, false, false, false, false, false, false] rfl rfl (zax HT_.out (by kernel_rfl)) (fun _ _ _ h => h) (Or.inl ⟨by rfl, ?_⟩) ?_ ?_; rotate_left; (intro w'; go_simp; with_reducible rfl); rotate_left; (simp only [Act.put, List.setIfInBounds_toArray, List.set_cons_zero, List.set_cons_succ, i64_w]; rfl)
                  refine pure_ (i := 8) (N := some 77) (v := ?_) (a' := ?_) #[true, true, true, true, false, true, true, true, true, false, false, false, false, false, false, false, false, false] rfl rfl (zax HT_.out (by kernel_rfl)) (fun _ _ _ h => h) (Or.inl ⟨by rfl, ?_⟩) ?_ ?_; rotate_left; (intro w'; go_simp; with_reducible rfl); rotate_left; (simp only [Act.put, List.setIfInBounds_toArray, List.set_cons_zero, List.set_cons_succ, i64_w]; rfl)
                  refine pure_ (i := 10) (N := some 79) (v := ?_) (a' := ?_) #[true, true, true, true, false, true, true, true, true, false, true, false, false, false, false, false, false, false] rfl rfl (zax HT_.out (by kernel_rfl)) (fun _ _ _ h => h) (Or.inl ⟨by rfl, ?_⟩) ?_ ?_; rotate_left; (intro w'; go_simp; with_reducible rfl); rotate_left; (simp only [Act.put, List.setIfInBounds_toArray, List.set_cons_zero, List.set_cons_succ, i64_w]; rfl)
                  refine take_ (i := 4) (N := some 73) (v := ?_) (a' := ?_) #[true, true, true, true, true, true, true, true, true, false, true, false, false, false, false, false, false, false] rfl rfl (zbo HT_.out HW_.out (by kernel_rfl)) (fun _ _ _ h => h) (Or.inl ⟨by rfl, ?_⟩) hHeld ?_ ?_; rotate_left; (rintro w' ⟨s0, s1, s2, s3, s4, s5, s6, s7, s8, s9, s10, s11, s12, s13, s14, s15, s16, s17, s18, s19, s20, s21, s22, s23, s24, s25, s26, s27, s28, s29, s30, s31, s32, s33, s34, s35, s36, s37, s38, s39, s40, s41⟩; go_simp; with_reducible rfl); rotate_left; (simp only [Act.put, List.setIfInBounds_toArray, List.set_cons_zero, List.set_cons_succ, i64_w]; rfl)
                  refine take_ (i := 9) (N := some 78) (v := ?_) (a' := ?_) #[true, true, true, true, true, true, true, true, true, true, true, false, false, false, false, false, false, false] rfl rfl (zbo HT_.out HW_.out (by kernel_rfl)) (fun _ _ _ h => h) (Or.inl ⟨by rfl, ?_⟩) hHeld ?_ ?_; rotate_left; (rintro w' ⟨s0, s1, s2, s3, s4, s5, s6, s7, s8, s9, s10, s11, s12, s13, s14, s15, s16, s17, s18, s19, s20, s21, s22, s23, s24, s25, s26, s27, s28, s29, s30, s31, s32, s33, s34, s35, s36, s37, s38, s39, s40, s41⟩; go_simp; with_reducible rfl); rotate_left; (simp only [Act.put, List.setIfInBounds_toArray, List.set_cons_zero, List.set_cons_succ, i64_w]; rfl)
                  refine take_ (i := 11) (N := some 80) (v := ?_) (a' := ?_) #[true, true, true, true, true, true, true, true, true, true, true, true, false, false, false, false, false, false] rfl rfl (zbo HT_.out HW_.out (by kernel_rfl)) (fun _ _ _ h => h) (Or.inl ⟨by rfl, ?_⟩) hHeld ?_ ?_; rotate_left; (rintro w' ⟨s0, s1, s2, s3, s4, s5, s6, s7, s8, s9, s10, s11, s12, s13, s14, s15, s16, s17, s18, s19, s20, s21, s22, s23, s24, s25, s26, s27, s28, s29, s30, s31, s32, s33, s34, s35, s36, s37, s38, s39, s40, s41⟩; go_simp; with_reducible rfl); rotate_left; (simp only [Act.put, List.setIfInBounds_toArray, List.set_cons_zero, List.set_cons_succ, i64_w]; rfl)
                  refine one_ (i := 12) (N := some 81) #[true, true, true, true, true, true, true, true, true, true, true, true, true, false, false, false, false, false] rfl rfl (one_of HT_.out (by kernel_rfl)) (by decide) (fun K hK => ?_)
                  refine goes_ Tryd.func31 (by kernel_rfl) rfl #[.int .i64 ((zag l0 t284).f3), .int .i64 ((zag l0 t284).f5), .slice A280_11 ((zag l0 a1).f7).length c280_11] (by rfl) rfl rfl (by (try simp only [List.map_toArray, List.map_cons, List.map_nil]); first | done | rfl | (simp only [List.length_drop, List.length_take]; rfl)) ?_
                  with_reducible refine (zat.calls kj23 ((zag l0 t284).f3) ((zag l0 t284).f5) _ _ ((zag l0 a1).f7) t289 false _ ?side1 ?side2 A38.out).mono ?_
                  (case side1 => repeat (first | exact (Kd.zbn HR280_11.out HB.out) | (with_reducible refine Kd.zb7 ?_ _) | (with_reducible refine Kd.C_drewN ?_ _) | (with_reducible refine Kd.C_drew ?_)))
                  (case side2 => exact HC280_11.out)
                  rintro e w45 ⟨v291, rfl, ho0, hb⟩
                  refine ⟨_, rfl, ?_⟩
                  have n0_ := zad.mk (Kd.zb5 ho0 (zas (by repeat (first | (with_reducible first | exact HB.out | apply zac | apply zaa | apply zab | refine zaf ?_ GE281.out) | exact HB.out))))
                  have n1_ := zad.mk (zav (g := gb281) (o := .cells #[.int .i64 ((zag l0 a1).f0), .int .i64 ((zag l0 a1).f1.f0), .int .i64 ((zag l0 a1).f1.f1), .string ((zag l0 a1).f1.f2), .int .i64 ((zag l0 a1).f2), .int .i64 ((zag l0 a1).f3), .int .i64 ((zag l0 a1).f4.f0), .int .i64 ((zag l0 a1).f4.f1), .string ((zag l0 a1).f4.f2), .int .i64 ((zag l0 a1).f5), .slice A280_10 ((zag l0 a1).f6).length c280_10, .slice A280_11 ((zag l0 a1).f7).length c280_11, .bool ((zag l0 a1).f8), .string ((zag l0 a1).f9)] 47 (0, 0)) (by (with_reducible repeat (first | refine zah ?_ _ | refine zaj ?_ | refine zai ?_ _)); exact BK281.out) hb)
                  have n2_ := zad.mk (zaq (by repeat (first | (with_reducible first | exact HB.out | apply zac | apply zaa | apply zab | refine zaf ?_ GE281.out) | exact HB.out)) hb)
                  clear BK281
                  clear HB
                  have HO292 := n0_
                  have BK281 := n1_
                  have HB := n2_
                  clear n0_ n1_ n2_
                  try clear hb
                  try clear hb2
                  try clear hk
                  try clear hi
                  try clear ho0
                  refine hK.out _ _ ⟨(zae BK281.out 0).trans rfl, (zae BK281.out 1).trans rfl, (zae BK281.out 2).trans rfl, (zae BK281.out 3).trans rfl, (zae BK281.out 4).trans rfl, (zae BK281.out 5).trans rfl, (zae BK281.out 6).trans rfl, (zae BK281.out 7).trans rfl, (zae BK281.out 8).trans rfl, (zae BK281.out 9).trans rfl, (zae BK281.out 10).trans rfl, (zae BK281.out 11).trans rfl, (zae BK281.out 12).trans rfl, (zae BK281.out 13).trans rfl, ((HB.out.cell (World.block_lt_of_cell? w _ hw287_0)).trans hw287_0), ((HB.out.cell (World.block_lt_of_cell? w _ hw287_1)).trans hw287_1), ((HB.out.cell (World.block_lt_of_cell? w _ hw287_2)).trans hw287_2), ((HB.out.cell (World.block_lt_of_cell? w _ hw287_3)).trans hw287_3), ((HB.out.cell (World.block_lt_of_cell? w _ hw287_4)).trans hw287_4), ((HB.out.cell (World.block_lt_of_cell? w _ hw287_5)).trans hw287_5), ((HB.out.cell (World.block_lt_of_cell? w _ hw287_6)).trans hw287_6), ((HB.out.cell (World.block_lt_of_cell? w _ hw287_7)).trans hw287_7), ((HB.out.cell (World.block_lt_of_cell? w _ hw287_8)).trans hw287_8), ((HB.out.cell (World.block_lt_of_cell? w _ hw287_9)).trans hw287_9), ((HB.out.cell (World.block_lt_of_cell? w _ hw287_10)).trans hw287_10), ((HB.out.cell (World.block_lt_of_cell? w _ hw287_11)).trans hw287_11), ((HB.out.cell (World.block_lt_of_cell? w _ hw287_12)).trans hw287_12), ((HB.out.cell (World.block_lt_of_cell? w _ hw287_13)).trans hw287_13), ((HB.out.cell (World.block_lt_of_cell? w _ hw288_0)).trans hw288_0), ((HB.out.cell (World.block_lt_of_cell? w _ hw288_1)).trans hw288_1), ((HB.out.cell (World.block_lt_of_cell? w _ hw288_2)).trans hw288_2), ((HB.out.cell (World.block_lt_of_cell? w _ hw288_3)).trans hw288_3), ((HB.out.cell (World.block_lt_of_cell? w _ hw288_4)).trans hw288_4), ((HB.out.cell (World.block_lt_of_cell? w _ hw288_5)).trans hw288_5), ((HB.out.cell (World.block_lt_of_cell? w _ hw288_6)).trans hw288_6), ((HB.out.cell (World.block_lt_of_cell? w _ hw288_7)).trans hw288_7), ((HB.out.cell (World.block_lt_of_cell? w _ hw288_8)).trans hw288_8), ((HB.out.cell (World.block_lt_of_cell? w _ hw288_9)).trans hw288_9), ((HB.out.cell (World.block_lt_of_cell? w _ hw288_10)).trans hw288_10), ((HB.out.cell (World.block_lt_of_cell? w _ hw288_11)).trans hw288_11), ((HB.out.cell (World.block_lt_of_cell? w _ hw288_12)).trans hw288_12), ((HB.out.cell (World.block_lt_of_cell? w _ hw288_13)).trans hw288_13)⟩ (fun hHeld => ?_)
                  clear hK K
                  refine norm_ (a' := ?_) ?_ ?_
                  rotate_left
                  ·show Act.put _ (some 81) _ = _
                   simp only [Act.put, List.setIfInBounds_toArray, List.set_cons_zero, List.set_cons_succ, i64_w]
                   rfl
                  refine pure_ (i := 13) (N := some 68) (v := ?_) (a' := ?_) #[true, true, true, true, true, true, true, true, true, true, true, true, true, true, false, false, false, false] rfl rfl (zax HT_.out (by kernel_rfl)) (fun _ _ _ h => h) (Or.inl ⟨by rfl, ?_⟩) ?_ ?_; rotate_left; (intro w'; go_simp; with_reducible rfl); rotate_left; (simp only [Act.put, List.setIfInBounds_toArray, List.set_cons_zero, List.set_cons_succ, i64_w]; rfl)
                  refine pure_ (i := 14) (N := some 82) (v := ?_) (a' := ?_) #[true, true, true, true, true, true, true, true, true, true, true, true, true, true, true, false, false, false] rfl rfl (zax HT_.out (by kernel_rfl)) (fun _ _ _ h => h) (Or.inl ⟨by rfl, ?_⟩) ?_ ?_; rotate_left; (intro w'; go_simp; with_reducible rfl); rotate_left; (simp only [Act.put, List.setIfInBounds_toArray, List.set_cons_zero, List.set_cons_succ, i64_w]; rfl)
                  refine pure_ (i := 15) (N := some 83) (v := ?_) (a' := ?_) #[true, true, true, true, true, true, true, true, true, true, true, true, true, true, true, true, false, false] rfl rfl (zax HT_.out (by kernel_rfl)) (fun _ _ _ h => h) (Or.inl ⟨by rfl, ?_⟩) ?_ ?_; rotate_left; (intro w'; go_simp; with_reducible rfl); rotate_left; (simp only [Act.put, List.setIfInBounds_toArray, List.set_cons_zero, List.set_cons_succ, i64_w]; rfl)
                  refine pure_ (i := 16) (N := some 9) (v := ?_) (a' := ?_) #[true, true, true, true, true, true, true, true, true, true, true, true, true, true, true, true, true, false] rfl rfl (zax HT_.out (by kernel_rfl)) (fun _ _ _ h => h) (Or.inl ⟨by rfl, ?_⟩) ?_ ?_; rotate_left; (intro w'; go_simp; with_reducible rfl); rotate_left; (simp only [Act.put, List.setIfInBounds_toArray, List.set_cons_zero, List.set_cons_succ, i64_w]; rfl)
                  refine pure_ (i := 17) (N := some 10) (v := ?_) (a' := ?_) #[true, true, true, true, true, true, true, true, true, true, true, true, true, true, true, true, true, true] rfl rfl (zax HT_.out (by kernel_rfl)) (fun _ _ _ h => h) (Or.inl ⟨by rfl, ?_⟩) ?_ ?_; rotate_left; (intro w'; go_simp; with_reducible rfl); rotate_left; (simp only [Act.put, List.setIfInBounds_toArray, List.set_cons_zero, List.set_cons_succ, i64_w]; rfl)
                  refine done_ (zcp HT_.out (by kernel_rfl)) ?_
                  try go_wp2
                  go_ret
                  exact ⟨by first | rfl | (simp [zam, zal] <;> rfl) | (simp [*, zam, zal] <;> rfl), by repeat (first | (with_reducible first | exact HB.out | apply zac | apply zaa | apply zab | refine zaf ?_ GE281.out) | exact HB.out)⟩
                ·rw [if_neg c37] at H
                 exact absurd H (by simp)
               ·rw [if_neg c36] at H
                exact absurd H (by simp)
              ·rw [if_neg c35] at H
               have c35b0 : (((zag l0 a1).f2) == 2) = false := beq_eq_false_iff_ne.mpr c35
               have c35b1 : (((zag l0 a1).f2) != 2) = true := bne_iff_ne.mpr c35
               obtain rfl := Option.some.inj H
               obtain ⟨hcz46_0, hcz46_1, hcz46_2, hcz46_3, hcz46_4, hcz46_5, hcz46_6, hcz46_7, hcz46_8, hcz46_9, hcz46_10, hcz46_11, hcz46_12, hcz46_13⟩ := cq14 BK281.out
               obtain ⟨hfz46_0, hfz46_1, hfz46_2, hfz46_3, hfz46_4, hfz46_5, hfz46_6, hfz46_7, hfz46_8, hfz46_9, hfz46_10, hfz46_11, hfz46_12, hfz46_13⟩ := fq14 BK281.out
               go_wp2
               go_ret
               exact ⟨by first | rfl | (simp [zam, zal] <;> rfl) | (simp [*, zam, zal] <;> rfl), by repeat (first | (with_reducible first | exact HB.out | apply zac | apply zaa | apply zab | refine zaf ?_ GE281.out) | exact HB.out)⟩
             ·replace c34 := Bool.eq_false_iff.mpr c34
              subst c34
              have H1 : (some 4) = some r := by rw [if_neg (show ¬ (false = true) by decide)] at H; exact H
              clear H
              have H := H1
              clear H1
              obtain rfl := Option.some.inj H
              obtain ⟨hcz47_0, hcz47_1, hcz47_2, hcz47_3, hcz47_4, hcz47_5, hcz47_6, hcz47_7, hcz47_8, hcz47_9, hcz47_10, hcz47_11, hcz47_12, hcz47_13⟩ := cq14 BK281.out
              obtain ⟨hfz47_0, hfz47_1, hfz47_2, hfz47_3, hfz47_4, hfz47_5, hfz47_6, hfz47_7, hfz47_8, hfz47_9, hfz47_10, hfz47_11, hfz47_12, hfz47_13⟩ := fq14 BK281.out
              go_wp2
              go_ret
              exact ⟨by first | rfl | (simp [zam, zal] <;> rfl) | (simp [*, zam, zal] <;> rfl), by repeat (first | (with_reducible first | exact HB.out | apply zac | apply zaa | apply zab | refine zaf ?_ GE281.out) | exact HB.out)⟩
    ·replace c7 := Bool.eq_false_iff.mpr c7
     subst c7
     have H1 : (some 2) = some r := by rw [if_neg (show ¬ (false = true) by decide)] at H; exact H
     clear H
     have H := H1
     clear H1
     obtain rfl := Option.some.inj H
     have p280 : 0 ≤ (a1 : Int) := of_decide_eq_true (by first | (with_reducible assumption) | assumption)
     have q280 : a1 < (l0.length : Int) := of_decide_eq_true (by first | (with_reducible assumption) | assumption)
     obtain ⟨ad280, A280_10, c280_10, A280_11, c280_11, e280, hx280_0, hx280_1, hx280_2, hx280_3, hx280_4, hx280_5, hx280_6, hx280_7, hx280_8, hx280_9, hx280_10, hx280_11, hx280_12, hx280_13, hl280_10, hi280_10, hl280_11, hi280_11⟩ := zcv HR0.out a1 p280 q280
     cases e280
     have HR280_10 := zad.mk hi280_10
     have HC280_10 := zad.mk hl280_10
     clear hi280_10 hl280_10
     have HR280_11 := zad.mk hi280_11
     have HC280_11 := zad.mk hl280_11
     clear hi280_11 hl280_11
     replace p280 := eq_true p280
     replace q280 := eq_true q280
     go_enter Tryd.func21, Tryd.ntmps21
     go_wp2_with (first | ((with_reducible refine za7 (N := 5) rfl ?_); refine za8 ?hg (N := 5) ?hd (cs := #[.int .i64 0, .int .i64 0, .int .i64 0, .string (⟨#[]⟩ : ByteArray), .int .i64 0, .int .i64 0, .int .i64 0, .int .i64 0, .string (⟨#[]⟩ : ByteArray), .int .i64 0, .slice none 0 0, .slice none 0 0, .bool false, .string (⟨#[]⟩ : ByteArray)]) (t := 47) ?hr ?_; (case hd => rfl); (case hg => rfl); (case hr => first | (go_simp; done) | (go_simp; rfl)); intro gb281 hg w48 hbox hb; have n0_ := zad.mk (zaq (by repeat (first | (with_reducible first | exact HB.out | apply zac | apply zaa | apply zab) | exact HB.out)) hb); have n1_ := zad.mk (hbox); have n2_ := zad.mk ((by rw [hg]; exact (zas (by repeat (first | (with_reducible first | exact HB.out | apply zac | apply zaa | apply zab) | exact HB.out))) : w.heap.size ≤ gb281)); have n3_ := zad.mk ((by rw [hg]; exact (zas (by repeat (first | (with_reducible first | exact HB.out | apply zac | apply zaa | apply zab) | exact HB.out))) : w.heap.size ≤ gb281)); clear HB; have HB := n0_; have BK281 := n1_; have GW281 := n2_; have GE281 := n3_; clear n0_ n1_ n2_ n3_; clear hb hbox hg; obtain ⟨hcz49_0, hcz49_1, hcz49_2, hcz49_3, hcz49_4, hcz49_5, hcz49_6, hcz49_7, hcz49_8, hcz49_9, hcz49_10, hcz49_11, hcz49_12, hcz49_13⟩ := cq14 BK281.out; obtain ⟨hfz49_0, hfz49_1, hfz49_2, hfz49_3, hfz49_4, hfz49_5, hfz49_6, hfz49_7, hfz49_8, hfz49_9, hfz49_10, hfz49_11, hfz49_12, hfz49_13⟩ := fq14 BK281.out) | ((with_reducible refine za0 (f := 29) rfl ?_); refine zbq (some 18) rfl rfl Tryd.func29 (by kernel_rfl) rfl #[.agg #[.int .i64 ((zag l0 a1).f0), .int .i64 ((zag l0 a1).f1.f0), .int .i64 ((zag l0 a1).f1.f1), .string ((zag l0 a1).f1.f2), .int .i64 ((zag l0 a1).f2), .int .i64 ((zag l0 a1).f3), .int .i64 ((zag l0 a1).f4.f0), .int .i64 ((zag l0 a1).f4.f1), .string ((zag l0 a1).f4.f2), .int .i64 ((zag l0 a1).f5), .slice A280_10 ((zag l0 a1).f6).length c280_10, .slice A280_11 ((zag l0 a1).f7).length c280_11, .bool ((zag l0 a1).f8), .string ((zag l0 a1).f9)]] rfl (by (try simp only [List.map_toArray, List.map_cons, List.map_nil]); first | done | rfl | (simp only [List.length_drop, List.length_take]; rfl)) ?_; (with_reducible refine (zan.calls k ((zag l0 a1).f0) ((zag l0 a1).f1.f0) ((zag l0 a1).f1.f1) ((zag l0 a1).f1.f2) ((zag l0 a1).f2) ((zag l0 a1).f3) ((zag l0 a1).f4.f0) ((zag l0 a1).f4.f1) ((zag l0 a1).f4.f2) ((zag l0 a1).f5) _ _ ((zag l0 a1).f6) _ _ ((zag l0 a1).f7) ((zag l0 a1).f8) ((zag l0 a1).f9) false _ ?side1 ?side2 ?side3 ?side4 A6.out).mono ?_); (case side1 => exact Kd.zbn HR280_10.out (by repeat (first | (with_reducible first | exact HB.out | apply zac | apply zaa | apply zab | refine zaf ?_ GE281.out) | exact HB.out))); (case side2 => exact HC280_10.out); (case side3 => exact Kd.zbn HR280_11.out (by repeat (first | (with_reducible first | exact HB.out | apply zac | apply zaa | apply zab | refine zaf ?_ GE281.out) | exact HB.out))); (case side4 => exact HC280_11.out); rintro e w50 ⟨rfl, hb⟩; refine ⟨_, rfl, ?_⟩; have n0_ := zad.mk (zav (g := gb281) (o := .cells #[.int .i64 ((zag l0 a1).f0), .int .i64 ((zag l0 a1).f1.f0), .int .i64 ((zag l0 a1).f1.f1), .string ((zag l0 a1).f1.f2), .int .i64 ((zag l0 a1).f2), .int .i64 ((zag l0 a1).f3), .int .i64 ((zag l0 a1).f4.f0), .int .i64 ((zag l0 a1).f4.f1), .string ((zag l0 a1).f4.f2), .int .i64 ((zag l0 a1).f5), .slice A280_10 ((zag l0 a1).f6).length c280_10, .slice A280_11 ((zag l0 a1).f7).length c280_11, .bool ((zag l0 a1).f8), .string ((zag l0 a1).f9)] 47 (0, 0)) (by (with_reducible repeat (first | refine zah ?_ _ | refine zaj ?_ | refine zai ?_ _)); refine pq14 (.int .i64 0) (.int .i64 0) (.int .i64 0) (.string (⟨#[]⟩ : ByteArray)) (.int .i64 0) (.int .i64 0) (.int .i64 0) (.int .i64 0) (.string (⟨#[]⟩ : ByteArray)) (.int .i64 0) (.slice none 0 0) (.slice none 0 0) (.bool false) (.string (⟨#[]⟩ : ByteArray)) ?_; (with_reducible repeat (first | refine zah ?_ _ | refine zaj ?_ | refine zai ?_ _)); exact BK281.out) hb); have n1_ := zad.mk (zaq (by repeat (first | (with_reducible first | exact HB.out | apply zac | apply zaa | apply zab | refine zaf ?_ GE281.out) | exact HB.out)) hb); clear BK281; clear HB; have BK281 := n0_; have HB := n1_; clear n0_ n1_; (try clear hb); (try clear hb2); (try clear hk); (try clear hi)))
     go_ret
     exact ⟨by first | rfl | (simp [zam, zal] <;> rfl) | (simp [*, zam, zal] <;> rfl), by repeat (first | (with_reducible first | exact HB.out | apply zac | apply zaa | apply zab | refine zaf ?_ GE281.out) | exact HB.out)⟩
   ·rw [if_neg c5] at H
    exact absurd H (by simp)
  ·rw [if_neg c4] at H
   exact absurd H (by simp)
end Go.Proofs.YtikmmigfdchcpaaDoor.PP
