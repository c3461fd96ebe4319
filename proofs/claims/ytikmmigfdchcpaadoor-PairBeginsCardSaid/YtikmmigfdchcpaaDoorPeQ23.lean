/-
  Proved: a part of the proof of the claim's statement (text Q23 of it).
  Conditions: none of ours.
-/
import Derived.Test.YtikmmigfdchcpaaDoorPeQ0
import Derived.Test.YtikmmigfdchcpaaDoorPeQ1
import Derived.Test.YtikmmigfdchcpaaDoorPeQ4
import Derived.Test.YtikmmigfdchcpaaDoorPeQ5
import Derived.Test.YtikmmigfdchcpaaDoorPeQ17
import Derived.Test.YtikmmigfdchcpaaDoorPeQ22
namespace Go.Proofs.YtikmmigfdchcpaaDoor.PP
open Go.RowKit Go.Proofs.YtikmmigfdchcpaaDoorW.PrintWords Go.Proofs.YtikmmigfdchcpaaDoorW.PrintLast Go.Proofs.YtikmmigfdchcpaaDoorW.PrintMore
set_option linter.unusedVariables false
set_option linter.unusedSimpArgs false
attribute [local go_sem high] eqA38
def zbf.f (k : Nat) (a0 : Int) (a1 : Int) (l2 : List (S38)) : Option (List Int × Bool) := (zbl.f a0 a1).bind fun bt143 => (if bt143.2.2.2.2.2 = true then (if bt143.2.2.2.1 < 0 then (some (([] : List Int), ((l2.length : Int) == 0))) else (if bt143.2.2.2.1 = 99 then ((za8.f k l2).bind fun bt150 => (some (bt150.1, bt150.2))) else (if (l2.length : Int) = 1 then (if 0 < (l2.length : Int) then ((zas.f k bt143.2.2.2.1 ((zai l2 0).f0) ((zai l2 0).f1) ((zai l2 0).f2)).bind fun t155 => (if t155 = true then (some ((([bt143.2.2.2.1] : List Int)), true)) else (if bt143.2.2.2.2.1 = true then (if ((((zai l2 0).f0) == 0 && (((zai l2 0).f1) == 0 && ((((zai l2 0).f2).toList) == ([] : List UInt8)))) = true) then (some ((([bt143.2.2.2.1] : List Int)), true)) else (some (([] : List Int), false))) else (some (([] : List Int), false))))) else (none)) else (some (([] : List Int), false))))) else (some (([] : List Int), false)))
def zbf.T8 : Bool × List (List Nat × List Nat) := (true, [([], []), ([0], [0]), ([1], [1]), ([2], [2]), ([3], [3]), ([4, 3], [3, 4]), ([3], [3]), ([6, 3], [3, 6]), ([7, 3], [3, 7]), ([5, 8, 3, 3], [3, 5, 8]), ([9, 3], [3, 9]), ([10, 9, 3], [3, 10]), ([11], [11]), ([12, 11], [11, 12]), ([13, 11, 11], [11, 13]), ([14], [14]), ([15, 14], [14, 15]), ([16, 14], [14, 16]), ([14], [14]), ([17, 18, 14], [14, 17, 18]), ([14, 19, 11], [11, 14, 19]), ([20, 11], [11, 20]), ([11, 21, 3], [3, 11, 21]), ([3, 22], [3, 22]), ([23, 14], [23])])
def zbf.B8 : List Nat := [0, 1, 3, 7, 15, 31, 15, 79, 207, 511, 1023, 2047, 4095, 8191, 16383, 32767, 65535, 131071, 32767, 524287, 1048575, 2097151, 4194303, 8388607, 16777215]
theorem zbf.tab8 : rtab .any (opsOf Tryd.f34 8) = zbf.T8 := by kernel_rfl
theorem zbf.bits8 : waitsOk zbf.T8.2 zbf.B8 = true := by kernel_rfl
set_option maxHeartbeats 8000000 in
set_option maxRecDepth 100000 in
theorem zbf.calls (k : Nat) (a0 : Int) (a1 : Int) (A2 : Option Addr) (c2 : Nat) (l2 : List (S38)) (r1 : List Int) (r2 : Bool) (w : World) (hG : Glob w) (hr2 : Kd.C k38 w A2 l2.length l2) (hc2 : l2.length ≤ c2) (h : zbf.f k a0 a1 l2 = some (r1, r2)) :
  Calls Tryd.prog 34 #[.int .i64 a0, .int .i64 a1, .slice A2 l2.length c2] w fun e w' => ∃ v0_ : Value, e = .returned (.tuple #[v0_, .bool r2]) ∧ Kd.R (Kd.int .i64) 3 w' w.heap.size (fun _ => True) v0_ r1 ∧ Below w.heap.size w w' := by
 have hu78 := Tryd.underlying78
 have hu38 := Tryd.underlying38
 have HR2 := zab.mk hr2
 have HC2 := zab.mk hc2
 clear hr2 hc2
 have HB := zab.mk (Below.refl w.heap.size w)
 have HG := zab.mk hG
 clear hG
 have H : ((zbl.f a0 a1).bind fun bt143 => (if bt143.2.2.2.2.2 = true then (if bt143.2.2.2.1 < 0 then (some (([] : List Int), ((l2.length : Int) == 0))) else (if bt143.2.2.2.1 = 99 then ((za8.f k l2).bind fun bt150 => (some (bt150.1, bt150.2))) else (if (l2.length : Int) = 1 then (if 0 < (l2.length : Int) then ((zas.f k bt143.2.2.2.1 ((zai l2 0).f0) ((zai l2 0).f1) ((zai l2 0).f2)).bind fun t155 => (if t155 = true then (some ((([bt143.2.2.2.1] : List Int)), true)) else (if bt143.2.2.2.2.1 = true then (if ((((zai l2 0).f0) == 0 && (((zai l2 0).f1) == 0 && ((((zai l2 0).f2).toList) == ([] : List UInt8)))) = true) then (some ((([bt143.2.2.2.1] : List Int)), true)) else (some (([] : List Int), false))) else (some (([] : List Int), false))))) else (none)) else (some (([] : List Int), false))))) else (some (([] : List Int), false)))) = some (r1, r2) := h
 clear h
 replace H := Option.bind_eq_some_iff.mp H
 obtain ⟨⟨t143, t144, t145, t146, t147, t148⟩, A40, H⟩ := H
 replace H : (if t148 = true then (if t146 < 0 then (some (([] : List Int), ((l2.length : Int) == 0))) else (if t146 = 99 then ((za8.f k l2).bind fun bt150 => (some (bt150.1, bt150.2))) else (if (l2.length : Int) = 1 then (if 0 < (l2.length : Int) then ((zas.f k t146 ((zai l2 0).f0) ((zai l2 0).f1) ((zai l2 0).f2)).bind fun t155 => (if t155 = true then (some ((([t146] : List Int)), true)) else (if t147 = true then (if ((((zai l2 0).f0) == 0 && (((zai l2 0).f1) == 0 && ((((zai l2 0).f2).toList) == ([] : List UInt8)))) = true) then (some ((([t146] : List Int)), true)) else (some (([] : List Int), false))) else (some (([] : List Int), false))))) else (none)) else (some (([] : List Int), false))))) else (some (([] : List Int), false))) = some (r1, r2) := H
 have A4 := zab.mk A40
 clear A40
 by_cases c5 : t148 = true
 ·subst c5
  have H1 : (if t146 < 0 then (some (([] : List Int), ((l2.length : Int) == 0))) else (if t146 = 99 then ((za8.f k l2).bind fun bt150 => (some (bt150.1, bt150.2))) else (if (l2.length : Int) = 1 then (if 0 < (l2.length : Int) then ((zas.f k t146 ((zai l2 0).f0) ((zai l2 0).f1) ((zai l2 0).f2)).bind fun t155 => (if t155 = true then (some ((([t146] : List Int)), true)) else (if t147 = true then (if ((((zai l2 0).f0) == 0 && (((zai l2 0).f1) == 0 && ((((zai l2 0).f2).toList) == ([] : List UInt8)))) = true) then (some ((([t146] : List Int)), true)) else (some (([] : List Int), false))) else (some (([] : List Int), false))))) else (none)) else (some (([] : List Int), false))))) = some (r1, r2) := by rw [if_pos rfl] at H; exact H
  clear H
  have H := H1
  clear H1
  by_cases c6 : t146 < 0
  ·rw [if_pos c6] at H
   have c6b0 : decide (t146 < 0) = true := decide_eq_true c6
   clear c6
   simp only [Option.some.injEq, Prod.mk.injEq] at H
   obtain ⟨rfl, rfl⟩ := H
   go_enter Tryd.func34, Tryd.ntmps34
   go_wp2_with (first | ((with_reducible refine za6 (f := 45) rfl ?_); refine zbo (some 13) rfl rfl Tryd.func45 (by kernel_rfl) rfl #[.int .i64 a0, .int .i64 a1] rfl (by (try simp only [List.map_toArray, List.map_cons, List.map_nil]); first | done | rfl | (simp only [List.length_drop, List.length_take]; rfl)) ?_; (with_reducible refine (zbl.calls a0 a1 t143 t144 t145 t146 t147 true _ A4.out).mono ?_); rintro e w7 ⟨rfl, hb⟩; refine ⟨_, rfl, ?_⟩; have n0_ := zab.mk (zal (by repeat with_reducible first | exact HB.out | apply zac | apply zaa | apply zad) hb); clear HB; have HB := n0_; clear n0_; (try clear hb); (try clear hb2); (try clear hk); (try clear hi)) | ((with_reducible refine za2 (N := 8) rfl ?_); refine zay ?hg (N := 8) ?hd (cs := #[.int .i64 0, .int .i64 0, .string (⟨#[]⟩ : ByteArray), .int .i64 0, .bool false]) (t := 78) ?hr ?_; (case hd => rfl); (case hg => rfl); (case hr => first | (go_simp; done) | (go_simp; rfl)); intro gb149 hg w8 hbox hb; have n0_ := zab.mk (zal (by repeat with_reducible first | exact HB.out | apply zac | apply zaa | apply zad) hb); have n1_ := zab.mk (hbox); have n2_ := zab.mk ((by rw [hg]; exact (zaq (by repeat with_reducible first | exact HB.out | apply zac | apply zaa | apply zad)) : w.heap.size ≤ gb149)); have n3_ := n2_; clear HB; have HB := n0_; have BK149 := n1_; have GW149 := n2_; have GE149 := n3_; clear n0_ n1_ n2_ n3_; clear hb hbox hg; obtain ⟨d9_0, d9_1, d9_2, d9_3, d9_4⟩ := cq5 BK149.out; obtain ⟨e9_0, e9_1, e9_2, e9_3, e9_4⟩ := fq5 BK149.out))
   go_ret2
   exact ⟨_, by first | rfl | (simp [zao, zan] <;> rfl) | (simp [*, zao, zan] <;> rfl), by first | exact Kd.R_nil _ _ _ _ _ | exact Kd.N_nil _ _ _ _ _ | exact Kd.V_nil _ _ _ _ _ | exact Kd.Q_nil _ _ _ _ _ | exact Kd.S_nil _ _ _ _ _, by repeat with_reducible first | exact HB.out | apply zac | apply zaa | apply zad | refine zag ?_ GE149.out⟩
  ·rw [if_neg c6] at H
   have c6b0 : decide (t146 < 0) = false := decide_eq_false c6
   clear c6
   by_cases c10 : t146 = 99
   ·rw [if_pos c10] at H
    have c10b0 : (t146 == 99) = true := beq_iff_eq.mpr c10
    have c10b1 : (t146 != 99) = false := bne_eq_false_iff_eq.mpr c10
    clear c10
    replace H := Option.bind_eq_some_iff.mp H
    obtain ⟨⟨t150, t151⟩, A110, H⟩ := H
    replace H : (some (t150, t151)) = some (r1, r2) := H
    have A11 := zab.mk A110
    clear A110
    simp only [Option.some.injEq, Prod.mk.injEq] at H
    obtain ⟨rfl, rfl⟩ := H
    go_enter Tryd.func34, Tryd.ntmps34
    go_wp2_with (first | ((with_reducible refine za6 (f := 45) rfl ?_); refine zbo (some 13) rfl rfl Tryd.func45 (by kernel_rfl) rfl #[.int .i64 a0, .int .i64 a1] rfl (by (try simp only [List.map_toArray, List.map_cons, List.map_nil]); first | done | rfl | (simp only [List.length_drop, List.length_take]; rfl)) ?_; (with_reducible refine (zbl.calls a0 a1 t143 t144 t145 t146 t147 true _ A4.out).mono ?_); rintro e w12 ⟨rfl, hb⟩; refine ⟨_, rfl, ?_⟩; have n0_ := zab.mk (zal (by repeat with_reducible first | exact HB.out | apply zac | apply zaa | apply zad) hb); clear HB; have HB := n0_; clear n0_; (try clear hb); (try clear hb2); (try clear hk); (try clear hi)) | ((with_reducible refine za2 (N := 8) rfl ?_); refine zay ?hg (N := 8) ?hd (cs := #[.int .i64 0, .int .i64 0, .string (⟨#[]⟩ : ByteArray), .int .i64 0, .bool false]) (t := 78) ?hr ?_; (case hd => rfl); (case hg => rfl); (case hr => first | (go_simp; done) | (go_simp; rfl)); intro gb149 hg w13 hbox hb; have n0_ := zab.mk (zal (by repeat with_reducible first | exact HB.out | apply zac | apply zaa | apply zad) hb); have n1_ := zab.mk (hbox); have n2_ := zab.mk ((by rw [hg]; exact (zaq (by repeat with_reducible first | exact HB.out | apply zac | apply zaa | apply zad)) : w.heap.size ≤ gb149)); have n3_ := n2_; clear HB; have HB := n0_; have BK149 := n1_; have GW149 := n2_; have GE149 := n3_; clear n0_ n1_ n2_ n3_; clear hb hbox hg; obtain ⟨d14_0, d14_1, d14_2, d14_3, d14_4⟩ := cq5 BK149.out; obtain ⟨e14_0, e14_1, e14_2, e14_3, e14_4⟩ := fq5 BK149.out) | ((with_reducible refine za6 (f := 46) rfl ?_); refine zbo (some 31) rfl rfl Tryd.func46 (by kernel_rfl) rfl #[.slice A2 l2.length c2] rfl (by (try simp only [List.map_toArray, List.map_cons, List.map_nil]); first | done | rfl | (simp only [List.length_drop, List.length_take]; rfl)) ?_; (with_reducible refine (za8.calls k _ _ l2 t150 t151 _ ?side0 ?side1 ?side2 A11.out).mono ?_); (case side0 => exact za7 HG.out (by repeat with_reducible first | exact HB.out | apply zac | apply zaa | apply zad | refine zag ?_ GE149.out)); (case side1 => exact Kd.za9 HR2.out (by repeat with_reducible first | exact HB.out | apply zac | apply zaa | apply zad | refine zag ?_ GE149.out)); (case side2 => exact HC2.out); rintro e w15 ⟨v152, rfl, ho0, hb⟩; refine ⟨_, rfl, ?_⟩; have n0_ := zab.mk (Kd.zcd ho0 (zaq (by repeat with_reducible first | exact HB.out | apply zac | apply zaa | apply zad | refine zag ?_ GE149.out))); have n1_ := zab.mk (zaw (g := gb149) (o := .cells #[.int .i64 t143, .int .i64 t144, .string t145, .int .i64 t146, .bool t147] 78 (0, 0)) (by (with_reducible repeat (first | refine zaj ?_ _ | refine zam ?_ | refine zak ?_ _)); refine pq5 (.int .i64 0) (.int .i64 0) (.string (⟨#[]⟩ : ByteArray)) (.int .i64 0) (.bool false) ?_; (with_reducible repeat (first | refine zaj ?_ _ | refine zam ?_ | refine zak ?_ _)); exact BK149.out) hb); have n2_ := zab.mk (zal (by repeat with_reducible first | exact HB.out | apply zac | apply zaa | apply zad | refine zag ?_ GE149.out) hb); clear BK149; clear HB; have HO153 := n0_; have BK149 := n1_; have HB := n2_; clear n0_ n1_ n2_; (try clear hb); (try clear hb2); (try clear hk); (try clear hi); (try clear ho0)))
    go_ret2
    exact ⟨_, by first | rfl | (simp [zao, zan] <;> rfl) | (simp [*, zao, zan] <;> rfl), by (with_reducible repeat (first | apply Kd.R_alloc | apply Kd.zbs | apply Kd.R_drew)); exact HO153.out, by repeat with_reducible first | exact HB.out | apply zac | apply zaa | apply zad | refine zag ?_ GE149.out⟩
   ·rw [if_neg c10] at H
    have c10b0 : (t146 == 99) = false := beq_eq_false_iff_ne.mpr c10
    have c10b1 : (t146 != 99) = true := bne_iff_ne.mpr c10
    by_cases c16 : (l2.length : Int) = 1
    ·rw [if_pos c16] at H
     have c16b0 : ((l2.length : Int) == 1) = true := beq_iff_eq.mpr c16
     have c16b1 : ((l2.length : Int) != 1) = false := bne_eq_false_iff_eq.mpr c16
     clear c16
     by_cases c17 : 0 < (l2.length : Int)
     ·rw [if_pos c17] at H
      have c17b0 : decide (0 < (l2.length : Int)) = true := decide_eq_true c17
      have c17b1 : decide (0 < l2.length) = true := decide_eq_true (by omega)
      clear c17
      replace H := Option.bind_eq_some_iff.mp H
      obtain ⟨t155, A180, H⟩ := H
      replace H : (if t155 = true then (some ((([t146] : List Int)), true)) else (if t147 = true then (if ((((zai l2 0).f0) == 0 && (((zai l2 0).f1) == 0 && ((((zai l2 0).f2).toList) == ([] : List UInt8)))) = true) then (some ((([t146] : List Int)), true)) else (some (([] : List Int), false))) else (some (([] : List Int), false)))) = some (r1, r2) := H
      have A18 := zab.mk A180
      clear A180
      by_cases c19 : t155 = true
      ·subst c19
       have H1 : (some ((([t146] : List Int)), true)) = some (r1, r2) := by rw [if_pos rfl] at H; exact H
       clear H
       have H := H1
       clear H1
       obtain ⟨y156, hy156⟩ : ∃ y_ : List Int, y_ = (([t146] : List Int)) := ⟨_, rfl⟩
       replace H : (some (y156, true)) = some (r1, r2) := by first | (rw [hy156]; with_reducible exact H) | (have H2_ := (Option.bind_some _ _).symm.trans H; rw [hy156]; with_reducible exact H2_) | (have H2_ := (Option.bind_some _ _).symm.trans H; with_reducible exact H2_) | with_reducible exact H | (rw [hy156]; exact H) | exact H
       have Ny156 := zab.mk hy156
       clear hy156
       simp only [Option.some.injEq, Prod.mk.injEq] at H
       obtain ⟨rfl, rfl⟩ := H
       go_enter Tryd.func34, Tryd.ntmps34
       try go_wp2_with (first | ((with_reducible refine za6 (f := 45) rfl ?_); refine zbo (some 13) rfl rfl Tryd.func45 (by kernel_rfl) rfl #[.int .i64 a0, .int .i64 a1] rfl (by (try simp only [List.map_toArray, List.map_cons, List.map_nil]); first | done | rfl | (simp only [List.length_drop, List.length_take]; rfl)) ?_; (with_reducible refine (zbl.calls a0 a1 t143 t144 t145 t146 t147 true _ A4.out).mono ?_); rintro e w20 ⟨rfl, hb⟩; refine ⟨_, rfl, ?_⟩; have n0_ := zab.mk (zal (by repeat with_reducible first | exact HB.out | apply zac | apply zaa | apply zad) hb); clear HB; have HB := n0_; clear n0_; (try clear hb); (try clear hb2); (try clear hk); (try clear hi)) | ((with_reducible refine za2 (N := 8) rfl ?_); refine zay ?hg (N := 8) ?hd (cs := #[.int .i64 0, .int .i64 0, .string (⟨#[]⟩ : ByteArray), .int .i64 0, .bool false]) (t := 78) ?hr ?_; (case hd => rfl); (case hg => rfl); (case hr => first | (go_simp; done) | (go_simp; rfl)); intro gb149 hg w21 hbox hb; have n0_ := zab.mk (zal (by repeat with_reducible first | exact HB.out | apply zac | apply zaa | apply zad) hb); have n1_ := zab.mk (hbox); have n2_ := zab.mk ((by rw [hg]; exact (zaq (by repeat with_reducible first | exact HB.out | apply zac | apply zaa | apply zad)) : w.heap.size ≤ gb149)); have n3_ := n2_; clear HB; have HB := n0_; have BK149 := n1_; have GW149 := n2_; have GE149 := n3_; clear n0_ n1_ n2_ n3_; clear hb hbox hg; obtain ⟨d22_0, d22_1, d22_2, d22_3, d22_4⟩ := cq5 BK149.out; obtain ⟨e22_0, e22_1, e22_2, e22_3, e22_4⟩ := fq5 BK149.out))
       have n0_ : zab ((((((w21.setCell ⟨gb149, 0, none⟩ (.int .i64 t143)).setCell ⟨gb149, 1, none⟩ (.int .i64 t144)).setCell ⟨gb149, 2, none⟩ (.string t145)).setCell ⟨gb149, 3, none⟩ (.int .i64 t146)).setCell ⟨gb149, 4, none⟩ (.bool t147)).heap[gb149]? = some (.cells #[.int .i64 t143, .int .i64 t144, .string t145, .int .i64 t146, .bool t147] 78 (0, 0))) := ⟨by (with_reducible repeat (first | refine zaj ?_ _ | refine zam ?_ | refine zak ?_ _)); refine pq5 (.int .i64 0) (.int .i64 0) (.string (⟨#[]⟩ : ByteArray)) (.int .i64 0) (.bool false) ?_; (with_reducible repeat (first | refine zaj ?_ _ | refine zam ?_ | refine zak ?_ _)); exact BK149.out⟩
       have n1_ : zab (Below w.heap.size w (((((w21.setCell ⟨gb149, 0, none⟩ (.int .i64 t143)).setCell ⟨gb149, 1, none⟩ (.int .i64 t144)).setCell ⟨gb149, 2, none⟩ (.string t145)).setCell ⟨gb149, 3, none⟩ (.int .i64 t146)).setCell ⟨gb149, 4, none⟩ (.bool t147))) := ⟨by repeat with_reducible first | exact HB.out | apply zac | apply zaa | apply zad | refine zag ?_ GE149.out⟩
       try clear BK149
       try clear HB
       generalize (((((w21.setCell ⟨gb149, 0, none⟩ (.int .i64 t143)).setCell ⟨gb149, 1, none⟩ (.int .i64 t144)).setCell ⟨gb149, 2, none⟩ (.string t145)).setCell ⟨gb149, 3, none⟩ (.int .i64 t146)).setCell ⟨gb149, 4, none⟩ (.bool t147)) = w23 at n0_ n1_ ⊢
       have BK149 := n0_
       have HB := n1_
       clear n0_ n1_
       have n0_ := zab.mk (zam BK149.out)
       have n1_ := zab.mk (zad HB.out)
       clear BK149
       clear HB
       have BK149 := n0_
       have HB := n1_
       clear n0_ n1_
       have p154 : 0 ≤ (0 : Int) := (by omega)
       have q154 : 0 < (l2.length : Int) := of_decide_eq_true (by first | (with_reducible assumption) | assumption)
       obtain ⟨ad154, e154, hx154_0, hx154_1, hx154_2⟩ := zcb HR2.out 0 p154 q154
       have hw154_2 := hx154_2
       (try rw [show ((0 : Int)).toNat = 0 from rfl] at hw154_2)
       (try rw [show 0 * 3 = 0 from rfl] at hw154_2)
       (try rw [Addr.add_zero'] at hw154_2)
       have hw154_1 := hx154_1
       (try rw [show ((0 : Int)).toNat = 0 from rfl] at hw154_1)
       (try rw [show 0 * 3 = 0 from rfl] at hw154_1)
       (try rw [Addr.add_zero'] at hw154_1)
       have hw154_0 := hx154_0
       (try rw [show ((0 : Int)).toNat = 0 from rfl] at hw154_0)
       (try rw [show 0 * 3 = 0 from rfl] at hw154_0)
       (try rw [Addr.add_zero'] at hw154_0)
       cases e154
       have qi154 : (0 < l2.length) = True := eq_true (by omega)
       (try rw [show ((0 : Int)).toNat = 0 from rfl] at hx154_0)
       (try rw [show 0 * 3 = 0 from rfl] at hx154_0)
       (try rw [Addr.add_zero'] at hx154_0)
       (try rw [show ((0 : Int)).toNat = 0 from rfl] at hx154_1)
       (try rw [show 0 * 3 = 0 from rfl] at hx154_1)
       (try rw [Addr.add_zero'] at hx154_1)
       (try rw [show ((0 : Int)).toNat = 0 from rfl] at hx154_2)
       (try rw [show 0 * 3 = 0 from rfl] at hx154_2)
       (try rw [Addr.add_zero'] at hx154_2)
       replace hx154_0 := zaf HB.out hx154_0
       replace hx154_1 := zaf HB.out hx154_1
       replace hx154_2 := zaf HB.out hx154_2
       replace p154 := eq_true p154
       replace q154 := eq_true q154
       refine start_ (n := 25) (S := fun w' => w'.cell? ⟨gb149, 0, none⟩ = some (.int .i64 t143) ∧ w'.cell? ⟨gb149, 1, none⟩ = some (.int .i64 t144) ∧ w'.cell? ⟨gb149, 2, none⟩ = some (.string t145) ∧ w'.cell? ⟨gb149, 3, none⟩ = some (.int .i64 t146) ∧ w'.cell? ⟨gb149, 4, none⟩ = some (.bool t147) ∧ w'.cell? ad154 = some (.int .i64 ((zai l2 0).f0)) ∧ w'.cell? ⟨ad154.block, ad154.off + 1, none⟩ = some (.int .i64 ((zai l2 0).f1)) ∧ w'.cell? ⟨ad154.block, ad154.off + 2, none⟩ = some (.string ((zai l2 0).f2))) (ds := []) #[false, false, false, false, false, false, false, false, false, false, false, false, false, false, false, false, false, false, false, false, false, false, false, false, false] (by kernel_rfl) rfl rfl ⟨(zae BK149.out 0).trans rfl, (zae BK149.out 1).trans rfl, (zae BK149.out 2).trans rfl, (zae BK149.out 3).trans rfl, (zae BK149.out 4).trans rfl, (zaf HB.out hw154_0), (zaf HB.out hw154_1), (zaf HB.out hw154_2)⟩ (fun hHeld => ?_); refine with_tabW zbf.tab8 zbf.bits8 (fun HT_ HW_ => ?_)
       generalize w23.drew = w24 at BK149 HB hx154_0 hx154_1 hx154_2 hHeld ⊢
       refine pz_ 0 35 ?_ ?_ (bz 25 1) rfl rfl (za3 HT_.out (by kernel_rfl)) (fun _ _ _ h => h) (Or.inl ⟨by rfl, ?_⟩) ?_ ?_; rotate_left 2; (intro w'; go_simp; with_reducible rfl); (simp only [zps]; rfl)
       refine pz_ 1 36 ?_ ?_ (bz 25 3) rfl rfl (za3 HT_.out (by kernel_rfl)) (fun _ _ _ h => h) (Or.inl ⟨by rfl, ?_⟩) ?_ ?_; rotate_left 2; (intro w'; go_simp; with_reducible rfl); (simp only [zps]; rfl)
       refine pz_ 2 37 ?_ ?_ (bz 25 7) rfl rfl (za3 HT_.out (by kernel_rfl)) (fun _ _ _ h => h) (Or.inl ⟨by rfl, ?_⟩) ?_ ?_; rotate_left 2; (intro w'; go_simp; with_reducible rfl); (simp only [zps]; rfl)
       refine pz_ 3 38 ?_ ?_ (bz 25 15) rfl rfl (za3 HT_.out (by kernel_rfl)) (fun _ _ _ h => h) (Or.inl ⟨by rfl, ?_⟩) ?_ ?_; rotate_left 2; (intro w'; go_simp; with_reducible rfl); (simp only [zps]; rfl)
       refine pz_ 4 39 ?_ ?_ (bz 25 31) rfl rfl (za3 HT_.out (by kernel_rfl)) (fun _ _ _ h => h) (Or.inl ⟨by rfl, ?_⟩) ?_ ?_; rotate_left 2; (intro w'; go_simp; with_reducible rfl); (simp only [zps]; rfl)
       refine pz_ 6 41 ?_ ?_ (bz 25 95) rfl rfl (za3 HT_.out (by kernel_rfl)) (fun _ _ _ h => h) (Or.inl ⟨by rfl, ?_⟩) ?_ ?_; rotate_left 2; (intro w'; go_simp; with_reducible rfl); (simp only [zps]; rfl)
       refine pz_ 7 42 ?_ ?_ (bz 25 223) rfl rfl (za3 HT_.out (by kernel_rfl)) (fun _ _ _ h => h) (Or.inl ⟨by rfl, ?_⟩) ?_ ?_; rotate_left 2; (intro w'; go_simp; with_reducible rfl); (simp only [zps]; rfl)
       refine tz_ 5 40 ?_ ?_ (bz 25 255) rfl rfl (zb4 HT_.out HW_.out (by kernel_rfl)) (fun _ _ _ h => h) (Or.inl ⟨by rfl, ?_⟩) hHeld ?_ ?_; rotate_left 2; (rintro w' ⟨s0, s1, s2, s3, s4, s5, s6, s7⟩; go_simp; with_reducible rfl); (simp only [zps]; rfl)
       refine tz_ 8 43 ?_ ?_ (bz 25 511) rfl rfl (zb4 HT_.out HW_.out (by kernel_rfl)) (fun _ _ _ h => h) (Or.inl ⟨by rfl, ?_⟩) hHeld ?_ ?_; rotate_left 2; (rintro w' ⟨s0, s1, s2, s3, s4, s5, s6, s7⟩; go_simp; with_reducible rfl); (simp only [zps]; rfl)
       refine one_ (i := 9) (N := some 44) (bz 25 1023) rfl rfl (one_of HT_.out (by kernel_rfl)) (by decide) (fun K hK => ?_)
       refine goes_ Tryd.func40 (by kernel_rfl) rfl #[.int .i64 t146, .agg #[.int .i64 ((zai l2 0).f0), .int .i64 ((zai l2 0).f1), .string ((zai l2 0).f2)]] (by rfl) rfl rfl (by (try simp only [List.map_toArray, List.map_cons, List.map_nil]); first | done | rfl | (simp only [List.length_drop, List.length_take]; rfl)) ?_
       with_reducible refine (zas.calls k t146 ((zai l2 0).f0) ((zai l2 0).f1) ((zai l2 0).f2) true _ ?side0 A18.out).mono ?_
       (case side0 => exact za7 HG.out (by repeat with_reducible first | exact HB.out | apply zac | apply zaa | apply zad | refine zag ?_ GE149.out))
       rintro e w25 ⟨rfl, hb⟩
       refine ⟨_, rfl, ?_⟩
       have n0_ := zab.mk (zaw (g := gb149) (o := .cells #[.int .i64 t143, .int .i64 t144, .string t145, .int .i64 t146, .bool t147] 78 (0, 0)) (by (with_reducible repeat (first | refine zaj ?_ _ | refine zam ?_ | refine zak ?_ _)); exact BK149.out) hb)
       have n1_ := zab.mk (zal (by repeat with_reducible first | exact HB.out | apply zac | apply zaa | apply zad | refine zag ?_ GE149.out) hb)
       clear BK149
       clear HB
       have BK149 := n0_
       have HB := n1_
       clear n0_ n1_
       try clear hb
       try clear hb2
       try clear hk
       try clear hi
       refine hK.out _ _ ⟨(zae BK149.out 0).trans rfl, (zae BK149.out 1).trans rfl, (zae BK149.out 2).trans rfl, (zae BK149.out 3).trans rfl, (zae BK149.out 4).trans rfl, (zaf HB.out hw154_0), (zaf HB.out hw154_1), (zaf HB.out hw154_2)⟩ (fun hHeld => ?_)
       clear hK K
       refine norm_ (a' := ?_) ?_ ?_
       rotate_left
       ·show Act.put _ (some 44) _ = _
        simp only [zps]
        rfl
       refine pz_ 10 45 ?_ ?_ (bz 25 2047) rfl rfl (za3 HT_.out (by kernel_rfl)) (fun _ _ _ h => h) (Or.inl ⟨by rfl, ?_⟩) ?_ ?_; rotate_left 2; (intro w'; go_simp; with_reducible rfl); (simp only [zps]; rfl)
       refine pz_ 11 46 ?_ ?_ (bz 25 4095) rfl rfl (za3 HT_.out (by kernel_rfl)) (fun _ _ _ h => h) (Or.inl ⟨by rfl, ?_⟩) ?_ ?_; rotate_left 2; (intro w'; go_simp; with_reducible rfl); (simp only [zps]; rfl)
       refine pz_ 12 47 undef ?_ (bz 25 8191) rfl rfl (za3 HT_.out (by kernel_rfl)) (fun _ _ _ h => h) (Or.inr ⟨by rfl, rfl⟩) ?_ ?_; rotate_left; (simp only [zps]; rfl)
       refine pz_ 13 48 undef ?_ (bz 25 16383) rfl rfl (za3 HT_.out (by kernel_rfl)) (fun _ _ _ h => h) (Or.inr ⟨by rfl, rfl⟩) ?_ ?_; rotate_left; (simp only [zps]; rfl)
       refine pz_ 14 49 undef ?_ (bz 25 32767) rfl rfl (za3 HT_.out (by kernel_rfl)) (fun _ _ _ h => h) (Or.inr ⟨by rfl, rfl⟩) ?_ ?_; rotate_left; (simp only [zps]; rfl)
       refine pz_ 15 50 undef ?_ (bz 25 65535) rfl rfl (za3 HT_.out (by kernel_rfl)) (fun _ _ _ h => h) (Or.inr ⟨by rfl, rfl⟩) ?_ ?_; rotate_left; (simp only [zps]; rfl)
       refine pz_ 16 51 undef ?_ (bz 25 131071) rfl rfl (za3 HT_.out (by kernel_rfl)) (fun _ _ _ h => h) (Or.inr ⟨by rfl, rfl⟩) ?_ ?_; rotate_left; (simp only [zps]; rfl)
       refine pz_ 17 52 undef ?_ (bz 25 262143) rfl rfl (za3 HT_.out (by kernel_rfl)) (fun _ _ _ h => h) (Or.inr ⟨by rfl, rfl⟩) ?_ ?_; rotate_left; (simp only [zps]; rfl)
       refine pz_ 18 53 undef ?_ (bz 25 524287) rfl rfl (za3 HT_.out (by kernel_rfl)) (fun _ _ _ h => h) (Or.inr ⟨by rfl, rfl⟩) ?_ ?_; rotate_left; (simp only [zps]; rfl)
       refine pz_ 19 54 undef ?_ (bz 25 1048575) rfl rfl (za3 HT_.out (by kernel_rfl)) (fun _ _ _ h => h) (Or.inr ⟨by rfl, rfl⟩) ?_ ?_; rotate_left; (simp only [zps]; rfl)
       refine pz_ 20 55 undef ?_ (bz 25 2097151) rfl rfl (za3 HT_.out (by kernel_rfl)) (fun _ _ _ h => h) (Or.inr ⟨by rfl, rfl⟩) ?_ ?_; rotate_left; (simp only [zps]; rfl)
       refine pz_ 21 56 undef ?_ (bz 25 4194303) rfl rfl (za3 HT_.out (by kernel_rfl)) (fun _ _ _ h => h) (Or.inr ⟨by rfl, rfl⟩) ?_ ?_; rotate_left; (simp only [zps]; rfl)
       refine pz_ 22 57 ?_ ?_ (bz 25 8388607) rfl rfl (za3 HT_.out (by kernel_rfl)) (fun _ _ _ h => h) (Or.inl ⟨by rfl, ?_⟩) ?_ ?_; rotate_left 2; (intro w'; go_simp; with_reducible rfl); (simp only [zps]; rfl)
       refine pz_ 23 58 ?_ ?_ (bz 25 16777215) rfl rfl (za3 HT_.out (by kernel_rfl)) (fun _ _ _ h => h) (Or.inl ⟨by rfl, ?_⟩) ?_ ?_; rotate_left 2; (intro w'; go_simp; with_reducible rfl); (simp only [zps]; rfl)
       refine pz_ 24 34 ?_ ?_ (bz 25 33554431) rfl rfl (za3 HT_.out (by kernel_rfl)) (fun _ _ _ h => h) (Or.inl ⟨by rfl, ?_⟩) ?_ ?_; rotate_left 2; (intro w'; go_simp; with_reducible rfl); (simp only [zps]; rfl)
       refine done_ (done_of HT_.out (by kernel_rfl)) ?_
       obtain ⟨d26_0, d26_1, d26_2, d26_3, d26_4⟩ := cq5 BK149.out
       obtain ⟨e26_0, e26_1, e26_2, e26_3, e26_4⟩ := fq5 BK149.out
       try go_wp2_with (first | ((with_reducible refine za2 (N := 61) rfl ?_); refine Kd.R_lit (Kd.int .i64) _ 3 ?hg (N := 61) ?hd (xs := ([t146] : List Int)) (inner := [.int .i64 t146]) (ok := fun _ => True) (okp := fun _ => True) ?hr ?hp (fun _ hk => hk) trivial (Below.refl _ _) (Nat.le_refl _) (by simp) ?_; (case hd => rfl); (case hg => rfl); (case hr => first | (go_simp; done) | (go_simp; rfl)); (case hp => exact (Reps.one (show Kd.M (Kd.int .i64) _ _ _ t146 [.int .i64 t146] from rfl) (Reps.none _ _))); intro v157 w27 ho28 hb hg_ hnew_; clear hg_ hnew_; (first | rw [← Ny156.out] at ho28 | (simp only [Int.reduceToNat] at ho28; rw [← Ny156.out] at ho28)); have n0_ := zab.mk (Kd.zcd ho28 (zaq (by repeat with_reducible first | exact HB.out | apply zac | apply zaa | apply zad | refine zag ?_ GE149.out))); have n1_ := zab.mk (zaw (g := gb149) (o := .cells #[.int .i64 t143, .int .i64 t144, .string t145, .int .i64 t146, .bool t147] 78 (0, 0)) (by (with_reducible repeat (first | refine zaj ?_ _ | refine zam ?_ | refine zak ?_ _)); exact BK149.out) hb); have n2_ := zab.mk (zal (by repeat with_reducible first | exact HB.out | apply zac | apply zaa | apply zad | refine zag ?_ GE149.out) hb); clear BK149; clear HB; have HO158 := n0_; have BK149 := n1_; have HB := n2_; clear n0_ n1_ n2_; clear hb ho28))
       go_ret2
       exact ⟨_, by first | rfl | (simp [zao, zan] <;> rfl) | (simp [*, zao, zan] <;> rfl), by (with_reducible repeat (first | apply Kd.R_alloc | apply Kd.zbs | apply Kd.R_drew)); exact HO158.out, by repeat with_reducible first | exact HB.out | apply zac | apply zaa | apply zad | refine zag ?_ GE149.out⟩
      ·replace c19 := Bool.eq_false_iff.mpr c19
       subst c19
       have H1 : (if t147 = true then (if ((((zai l2 0).f0) == 0 && (((zai l2 0).f1) == 0 && ((((zai l2 0).f2).toList) == ([] : List UInt8)))) = true) then (some ((([t146] : List Int)), true)) else (some (([] : List Int), false))) else (some (([] : List Int), false))) = some (r1, r2) := by rw [if_neg (show ¬ (false = true) by decide)] at H; exact H
       clear H
       have H := H1
       clear H1
       by_cases c29 : t147 = true
       ·subst c29
        have H1 : (if ((((zai l2 0).f0) == 0 && (((zai l2 0).f1) == 0 && ((((zai l2 0).f2).toList) == ([] : List UInt8)))) = true) then (some ((([t146] : List Int)), true)) else (some (([] : List Int), false))) = some (r1, r2) := by rw [if_pos rfl] at H; exact H
        clear H
        have H := H1
        clear H1
        by_cases c30 : ((((zai l2 0).f0) == 0 && (((zai l2 0).f1) == 0 && ((((zai l2 0).f2).toList) == ([] : List UInt8)))) = true)
        ·rw [if_pos c30] at H
         have c30b0 : (((zai l2 0).f0) == 0 && (((zai l2 0).f1) == 0 && ((((zai l2 0).f2).toList) == ([] : List UInt8)))) = true := c30
         (try (have c30b5 : (((zai l2 0).f0) == 0 && (((zai l2 0).f1) == 0 && ((((zai l2 0).f2).toList).isEmpty))) = true := by simp only [show ∀ l : List UInt8, l.isEmpty = (l == []) from fun l => by cases l <;> rfl]; exact c30b0))
         (try (have c30b1 : decide (((zai l2 0).f0) = 0 && (((zai l2 0).f1) == 0 && ((((zai l2 0).f2).toList) == ([] : List UInt8)))) = true := by simpa using c30))
         (try (have c30b2 : (((zai l2 0).f0) == 0 && (((zai l2 0).f1) == 0 && ((((zai l2 0).f2).toList) == ([] : List UInt8)))) = true := by simpa using c30))
         clear c30
         obtain ⟨y160, hy160⟩ : ∃ y_ : List Int, y_ = (([t146] : List Int)) := ⟨_, rfl⟩
         replace H : (some (y160, true)) = some (r1, r2) := by first | (rw [hy160]; with_reducible exact H) | (have H2_ := (Option.bind_some _ _).symm.trans H; rw [hy160]; with_reducible exact H2_) | (have H2_ := (Option.bind_some _ _).symm.trans H; with_reducible exact H2_) | with_reducible exact H | (rw [hy160]; exact H) | exact H
         have Ny160 := zab.mk hy160
         clear hy160
         simp only [Option.some.injEq, Prod.mk.injEq] at H
         obtain ⟨rfl, rfl⟩ := H
         go_enter Tryd.func34, Tryd.ntmps34
         try go_wp2_with (first | ((with_reducible refine za6 (f := 45) rfl ?_); refine zbo (some 13) rfl rfl Tryd.func45 (by kernel_rfl) rfl #[.int .i64 a0, .int .i64 a1] rfl (by (try simp only [List.map_toArray, List.map_cons, List.map_nil]); first | done | rfl | (simp only [List.length_drop, List.length_take]; rfl)) ?_; (with_reducible refine (zbl.calls a0 a1 t143 t144 t145 t146 true true _ A4.out).mono ?_); rintro e w31 ⟨rfl, hb⟩; refine ⟨_, rfl, ?_⟩; have n0_ := zab.mk (zal (by repeat with_reducible first | exact HB.out | apply zac | apply zaa | apply zad) hb); clear HB; have HB := n0_; clear n0_; (try clear hb); (try clear hb2); (try clear hk); (try clear hi)) | ((with_reducible refine za2 (N := 8) rfl ?_); refine zay ?hg (N := 8) ?hd (cs := #[.int .i64 0, .int .i64 0, .string (⟨#[]⟩ : ByteArray), .int .i64 0, .bool false]) (t := 78) ?hr ?_; (case hd => rfl); (case hg => rfl); (case hr => first | (go_simp; done) | (go_simp; rfl)); intro gb149 hg w32 hbox hb; have n0_ := zab.mk (zal (by repeat with_reducible first | exact HB.out | apply zac | apply zaa | apply zad) hb); have n1_ := zab.mk (hbox); have n2_ := zab.mk ((by rw [hg]; exact (zaq (by repeat with_reducible first | exact HB.out | apply zac | apply zaa | apply zad)) : w.heap.size ≤ gb149)); have n3_ := n2_; clear HB; have HB := n0_; have BK149 := n1_; have GW149 := n2_; have GE149 := n3_; clear n0_ n1_ n2_ n3_; clear hb hbox hg; obtain ⟨d33_0, d33_1, d33_2, d33_3, d33_4⟩ := cq5 BK149.out; obtain ⟨e33_0, e33_1, e33_2, e33_3, e33_4⟩ := fq5 BK149.out))
         have n0_ : zab ((((((w32.setCell ⟨gb149, 0, none⟩ (.int .i64 t143)).setCell ⟨gb149, 1, none⟩ (.int .i64 t144)).setCell ⟨gb149, 2, none⟩ (.string t145)).setCell ⟨gb149, 3, none⟩ (.int .i64 t146)).setCell ⟨gb149, 4, none⟩ (.bool true)).heap[gb149]? = some (.cells #[.int .i64 t143, .int .i64 t144, .string t145, .int .i64 t146, .bool true] 78 (0, 0))) := ⟨by (with_reducible repeat (first | refine zaj ?_ _ | refine zam ?_ | refine zak ?_ _)); refine pq5 (.int .i64 0) (.int .i64 0) (.string (⟨#[]⟩ : ByteArray)) (.int .i64 0) (.bool false) ?_; (with_reducible repeat (first | refine zaj ?_ _ | refine zam ?_ | refine zak ?_ _)); exact BK149.out⟩
         have n1_ : zab (Below w.heap.size w (((((w32.setCell ⟨gb149, 0, none⟩ (.int .i64 t143)).setCell ⟨gb149, 1, none⟩ (.int .i64 t144)).setCell ⟨gb149, 2, none⟩ (.string t145)).setCell ⟨gb149, 3, none⟩ (.int .i64 t146)).setCell ⟨gb149, 4, none⟩ (.bool true))) := ⟨by repeat with_reducible first | exact HB.out | apply zac | apply zaa | apply zad | refine zag ?_ GE149.out⟩
         try clear BK149
         try clear HB
         generalize (((((w32.setCell ⟨gb149, 0, none⟩ (.int .i64 t143)).setCell ⟨gb149, 1, none⟩ (.int .i64 t144)).setCell ⟨gb149, 2, none⟩ (.string t145)).setCell ⟨gb149, 3, none⟩ (.int .i64 t146)).setCell ⟨gb149, 4, none⟩ (.bool true)) = w34 at n0_ n1_ ⊢
         have BK149 := n0_
         have HB := n1_
         clear n0_ n1_
         have n0_ := zab.mk (zam BK149.out)
         have n1_ := zab.mk (zad HB.out)
         clear BK149
         clear HB
         have BK149 := n0_
         have HB := n1_
         clear n0_ n1_
         have p154 : 0 ≤ (0 : Int) := (by omega)
         have q154 : 0 < (l2.length : Int) := of_decide_eq_true (by first | (with_reducible assumption) | assumption)
         obtain ⟨ad154, e154, hx154_0, hx154_1, hx154_2⟩ := zcb HR2.out 0 p154 q154
         have hw154_2 := hx154_2
         (try rw [show ((0 : Int)).toNat = 0 from rfl] at hw154_2)
         (try rw [show 0 * 3 = 0 from rfl] at hw154_2)
         (try rw [Addr.add_zero'] at hw154_2)
         have hw154_1 := hx154_1
         (try rw [show ((0 : Int)).toNat = 0 from rfl] at hw154_1)
         (try rw [show 0 * 3 = 0 from rfl] at hw154_1)
         (try rw [Addr.add_zero'] at hw154_1)
         have hw154_0 := hx154_0
         (try rw [show ((0 : Int)).toNat = 0 from rfl] at hw154_0)
         (try rw [show 0 * 3 = 0 from rfl] at hw154_0)
         (try rw [Addr.add_zero'] at hw154_0)
         cases e154
         have qi154 : (0 < l2.length) = True := eq_true (by omega)
         (try rw [show ((0 : Int)).toNat = 0 from rfl] at hx154_0)
         (try rw [show 0 * 3 = 0 from rfl] at hx154_0)
         (try rw [Addr.add_zero'] at hx154_0)
         (try rw [show ((0 : Int)).toNat = 0 from rfl] at hx154_1)
         (try rw [show 0 * 3 = 0 from rfl] at hx154_1)
         (try rw [Addr.add_zero'] at hx154_1)
         (try rw [show ((0 : Int)).toNat = 0 from rfl] at hx154_2)
         (try rw [show 0 * 3 = 0 from rfl] at hx154_2)
         (try rw [Addr.add_zero'] at hx154_2)
         replace hx154_0 := zaf HB.out hx154_0
         replace hx154_1 := zaf HB.out hx154_1
         replace hx154_2 := zaf HB.out hx154_2
         replace p154 := eq_true p154
         replace q154 := eq_true q154
         have p159 : 0 ≤ (0 : Int) := (by omega)
         have q159 : 0 < (l2.length : Int) := of_decide_eq_true (by first | (with_reducible assumption) | assumption)
         obtain ⟨ad159, e159, hx159_0, hx159_1, hx159_2⟩ := zcb HR2.out 0 p159 q159
         have hw159_2 := hx159_2
         (try rw [show ((0 : Int)).toNat = 0 from rfl] at hw159_2)
         (try rw [show 0 * 3 = 0 from rfl] at hw159_2)
         (try rw [Addr.add_zero'] at hw159_2)
         have hw159_1 := hx159_1
         (try rw [show ((0 : Int)).toNat = 0 from rfl] at hw159_1)
         (try rw [show 0 * 3 = 0 from rfl] at hw159_1)
         (try rw [Addr.add_zero'] at hw159_1)
         have hw159_0 := hx159_0
         (try rw [show ((0 : Int)).toNat = 0 from rfl] at hw159_0)
         (try rw [show 0 * 3 = 0 from rfl] at hw159_0)
         (try rw [Addr.add_zero'] at hw159_0)
         obtain rfl : ad154 = ad159 := (by injection e159)
         have qi159 : (0 < l2.length) = True := eq_true (by omega)
         (try rw [show ((0 : Int)).toNat = 0 from rfl] at hx159_0)
         (try rw [show 0 * 3 = 0 from rfl] at hx159_0)
         (try rw [Addr.add_zero'] at hx159_0)
         (try rw [show ((0 : Int)).toNat = 0 from rfl] at hx159_1)
         (try rw [show 0 * 3 = 0 from rfl] at hx159_1)
         (try rw [Addr.add_zero'] at hx159_1)
         (try rw [show ((0 : Int)).toNat = 0 from rfl] at hx159_2)
         (try rw [show 0 * 3 = 0 from rfl] at hx159_2)
         (try rw [Addr.add_zero'] at hx159_2)
         replace hx159_0 := zaf HB.out hx159_0
         replace hx159_1 := zaf HB.out hx159_1
         replace hx159_2 := zaf HB.out hx159_2
         replace p159 := eq_true p159
         replace q159 := eq_true q159
         refine start_ (n := 25) (S := fun w' => w'.cell? ⟨gb149, 0, none⟩ = some (.int .i64 t143) ∧ w'.cell? ⟨gb149, 1, none⟩ = some (.int .i64 t144) ∧ w'.cell? ⟨gb149, 2, none⟩ = some (.string t145) ∧ w'.cell? ⟨gb149, 3, none⟩ = some (.int .i64 t146) ∧ w'.cell? ⟨gb149, 4, none⟩ = some (.bool true) ∧ w'.cell? ad154 = some (.int .i64 ((zai l2 0).f0)) ∧ w'.cell? ⟨ad154.block, ad154.off + 1, none⟩ = some (.int .i64 ((zai l2 0).f1)) ∧ w'.cell? ⟨ad154.block, ad154.off + 2, none⟩ = some (.string ((zai l2 0).f2)) ∧ w'.cell? ad154 = some (.int .i64 ((zai l2 0).f0)) ∧ w'.cell? ⟨ad154.block, ad154.off + 1, none⟩ = some (.int .i64 ((zai l2 0).f1)) ∧ w'.cell? ⟨ad154.block, ad154.off + 2, none⟩ = some (.string ((zai l2 0).f2))) (ds := []) #[false, false, false, false, false, false, false, false, false, false, false, false, false, false, false, false, false, false, false, false, false, false, false, false, false] (by kernel_rfl) rfl rfl ⟨(zae BK149.out 0).trans rfl, (zae BK149.out 1).trans rfl, (zae BK149.out 2).trans rfl, (zae BK149.out 3).trans rfl, (zae BK149.out 4).trans rfl, (zaf HB.out hw154_0), (zaf HB.out hw154_1), (zaf HB.out hw154_2), (zaf HB.out hw159_0), (zaf HB.out hw159_1), (zaf HB.out hw159_2)⟩ (fun hHeld => ?_); refine with_tabW zbf.tab8 zbf.bits8 (fun HT_ HW_ => ?_)
         generalize w34.drew = w35 at BK149 HB hx154_0 hx154_1 hx154_2 hx159_0 hx159_1 hx159_2 hHeld ⊢
         refine pz_ 0 35 ?_ ?_ (bz 25 1) rfl rfl (za3 HT_.out (by kernel_rfl)) (fun _ _ _ h => h) (Or.inl ⟨by rfl, ?_⟩) ?_ ?_; rotate_left 2; (intro w'; go_simp; with_reducible rfl); (simp only [zps]; rfl)
         refine pz_ 1 36 ?_ ?_ (bz 25 3) rfl rfl (za3 HT_.out (by kernel_rfl)) (fun _ _ _ h => h) (Or.inl ⟨by rfl, ?_⟩) ?_ ?_; rotate_left 2; (intro w'; go_simp; with_reducible rfl); (simp only [zps]; rfl)
         refine pz_ 2 37 ?_ ?_ (bz 25 7) rfl rfl (za3 HT_.out (by kernel_rfl)) (fun _ _ _ h => h) (Or.inl ⟨by rfl, ?_⟩) ?_ ?_; rotate_left 2; (intro w'; go_simp; with_reducible rfl); (simp only [zps]; rfl)
         refine pz_ 3 38 ?_ ?_ (bz 25 15) rfl rfl (za3 HT_.out (by kernel_rfl)) (fun _ _ _ h => h) (Or.inl ⟨by rfl, ?_⟩) ?_ ?_; rotate_left 2; (intro w'; go_simp; with_reducible rfl); (simp only [zps]; rfl)
         refine pz_ 4 39 ?_ ?_ (bz 25 31) rfl rfl (za3 HT_.out (by kernel_rfl)) (fun _ _ _ h => h) (Or.inl ⟨by rfl, ?_⟩) ?_ ?_; rotate_left 2; (intro w'; go_simp; with_reducible rfl); (simp only [zps]; rfl)
         refine pz_ 6 41 ?_ ?_ (bz 25 95) rfl rfl (za3 HT_.out (by kernel_rfl)) (fun _ _ _ h => h) (Or.inl ⟨by rfl, ?_⟩) ?_ ?_; rotate_left 2; (intro w'; go_simp; with_reducible rfl); (simp only [zps]; rfl)
         refine pz_ 7 42 ?_ ?_ (bz 25 223) rfl rfl (za3 HT_.out (by kernel_rfl)) (fun _ _ _ h => h) (Or.inl ⟨by rfl, ?_⟩) ?_ ?_; rotate_left 2; (intro w'; go_simp; with_reducible rfl); (simp only [zps]; rfl)
         refine tz_ 5 40 ?_ ?_ (bz 25 255) rfl rfl (zb4 HT_.out HW_.out (by kernel_rfl)) (fun _ _ _ h => h) (Or.inl ⟨by rfl, ?_⟩) hHeld ?_ ?_; rotate_left 2; (rintro w' ⟨s0, s1, s2, s3, s4, s5, s6, s7, s8, s9, s10⟩; go_simp; with_reducible rfl); (simp only [zps]; rfl)
         refine tz_ 8 43 ?_ ?_ (bz 25 511) rfl rfl (zb4 HT_.out HW_.out (by kernel_rfl)) (fun _ _ _ h => h) (Or.inl ⟨by rfl, ?_⟩) hHeld ?_ ?_; rotate_left 2; (rintro w' ⟨s0, s1, s2, s3, s4, s5, s6, s7, s8, s9, s10⟩; go_simp; with_reducible rfl); (simp only [zps]; rfl)
         refine one_ (i := 9) (N := some 44) (bz 25 1023) rfl rfl (one_of HT_.out (by kernel_rfl)) (by decide) (fun K hK => ?_)
         refine goes_ Tryd.func40 (by kernel_rfl) rfl #[.int .i64 t146, .agg #[.int .i64 ((zai l2 0).f0), .int .i64 ((zai l2 0).f1), .string ((zai l2 0).f2)]] (by rfl) rfl rfl (by (try simp only [List.map_toArray, List.map_cons, List.map_nil]); first | done | rfl | (simp only [List.length_drop, List.length_take]; rfl)) ?_
         with_reducible refine (zas.calls k t146 ((zai l2 0).f0) ((zai l2 0).f1) ((zai l2 0).f2) false _ ?side0 A18.out).mono ?_
         (case side0 => exact za7 HG.out (by repeat with_reducible first | exact HB.out | apply zac | apply zaa | apply zad | refine zag ?_ GE149.out))
         rintro e w36 ⟨rfl, hb⟩
         refine ⟨_, rfl, ?_⟩
         have n0_ := zab.mk (zaw (g := gb149) (o := .cells #[.int .i64 t143, .int .i64 t144, .string t145, .int .i64 t146, .bool true] 78 (0, 0)) (by (with_reducible repeat (first | refine zaj ?_ _ | refine zam ?_ | refine zak ?_ _)); exact BK149.out) hb)
         have n1_ := zab.mk (zal (by repeat with_reducible first | exact HB.out | apply zac | apply zaa | apply zad | refine zag ?_ GE149.out) hb)
         clear BK149
         clear HB
         have BK149 := n0_
         have HB := n1_
         clear n0_ n1_
         try clear hb
         try clear hb2
         try clear hk
         try clear hi
         refine hK.out _ _ ⟨(zae BK149.out 0).trans rfl, (zae BK149.out 1).trans rfl, (zae BK149.out 2).trans rfl, (zae BK149.out 3).trans rfl, (zae BK149.out 4).trans rfl, (zaf HB.out hw154_0), (zaf HB.out hw154_1), (zaf HB.out hw154_2), (zaf HB.out hw159_0), (zaf HB.out hw159_1), (zaf HB.out hw159_2)⟩ (fun hHeld => ?_)
         clear hK K
         refine norm_ (a' := ?_) ?_ ?_
         rotate_left
         ·show Act.put _ (some 44) _ = _
          simp only [zps]
          rfl
         refine pz_ 10 45 ?_ ?_ (bz 25 2047) rfl rfl (za3 HT_.out (by kernel_rfl)) (fun _ _ _ h => h) (Or.inl ⟨by rfl, ?_⟩) ?_ ?_; rotate_left 2; (intro w'; go_simp; with_reducible rfl); (simp only [zps]; rfl)
         refine pz_ 11 46 ?_ ?_ (bz 25 4095) rfl rfl (za3 HT_.out (by kernel_rfl)) (fun _ _ _ h => h) (Or.inl ⟨by rfl, ?_⟩) ?_ ?_; rotate_left 2; (intro w'; go_simp; with_reducible rfl); (simp only [zps]; rfl)
         refine pz_ 12 47 ?_ ?_ (bz 25 8191) rfl rfl (za3 HT_.out (by kernel_rfl)) (fun _ _ _ h => h) (Or.inl ⟨by rfl, ?_⟩) ?_ ?_; rotate_left 2; (intro w'; go_simp; with_reducible rfl); (simp only [zps]; rfl)
         refine tz_ 13 48 ?_ ?_ (bz 25 16383) rfl rfl (zb4 HT_.out HW_.out (by kernel_rfl)) (fun _ _ _ h => h) (Or.inl ⟨by rfl, ?_⟩) hHeld ?_ ?_; rotate_left 2; (rintro w' ⟨s0, s1, s2, s3, s4, s5, s6, s7, s8, s9, s10⟩; go_simp; with_reducible rfl); (simp only [zps]; rfl)
         refine pz_ 14 49 ?_ ?_ (bz 25 32767) rfl rfl (za3 HT_.out (by kernel_rfl)) (fun _ _ _ h => h) (Or.inl ⟨by rfl, ?_⟩) ?_ ?_; rotate_left 2; (intro w'; go_simp; with_reducible rfl); (simp only [zps]; rfl)
         refine pz_ 15 50 ?_ ?_ (bz 25 65535) rfl rfl (za3 HT_.out (by kernel_rfl)) (fun _ _ _ h => h) (Or.inl ⟨by rfl, ?_⟩) ?_ ?_; rotate_left 2; (intro w'; go_simp; with_reducible rfl); (simp only [zps]; rfl)
         refine pz_ 16 51 ?_ ?_ (bz 25 131071) rfl rfl (za3 HT_.out (by kernel_rfl)) (fun _ _ _ h => h) (Or.inl ⟨by rfl, ?_⟩) ?_ ?_; rotate_left 2; (intro w'; go_simp; with_reducible rfl); (simp only [zps]; rfl)
         refine pz_ 18 53 ?_ ?_ (bz 25 393215) rfl rfl (za3 HT_.out (by kernel_rfl)) (fun _ _ _ h => h) (Or.inl ⟨by rfl, ?_⟩) ?_ ?_; rotate_left 2; (intro w'; go_simp; with_reducible rfl); (simp only [zps]; rfl)
         refine tz_ 17 52 ?_ ?_ (bz 25 524287) rfl rfl (zb4 HT_.out HW_.out (by kernel_rfl)) (fun _ _ _ h => h) (Or.inl ⟨by rfl, ?_⟩) hHeld ?_ ?_; rotate_left 2; (rintro w' ⟨s0, s1, s2, s3, s4, s5, s6, s7, s8, s9, s10⟩; go_simp; with_reducible rfl); (simp only [zps]; rfl)
         refine pz_ 19 54 ?_ ?_ (bz 25 1048575) rfl rfl (za3 HT_.out (by kernel_rfl)) (fun _ _ _ h => h) (Or.inl ⟨by rfl, ?_⟩) ?_ ?_; rotate_left 2; (intro w'; go_simp; with_reducible rfl); (simp only [zps]; rfl)
         refine pz_ 20 55 ?_ ?_ (bz 25 2097151) rfl rfl (za3 HT_.out (by kernel_rfl)) (fun _ _ _ h => h) (Or.inl ⟨by rfl, ?_⟩) ?_ ?_; rotate_left 2; (intro w'; go_simp; with_reducible rfl); (simp only [zps]; rfl)
         refine pz_ 21 56 ?_ ?_ (bz 25 4194303) rfl rfl (za3 HT_.out (by kernel_rfl)) (fun _ _ _ h => h) (Or.inl ⟨by rfl, ?_⟩) ?_ ?_; rotate_left 2; (intro w'; go_simp; with_reducible rfl); (simp only [zps]; rfl)
         refine pz_ 22 57 ?_ ?_ (bz 25 8388607) rfl rfl (za3 HT_.out (by kernel_rfl)) (fun _ _ _ h => h) (Or.inl ⟨by rfl, ?_⟩) ?_ ?_; rotate_left 2; (intro w'; go_simp; with_reducible rfl); (simp only [zps]; rfl)
         refine pz_ 23 58 ?_ ?_ (bz 25 16777215) rfl rfl (za3 HT_.out (by kernel_rfl)) (fun _ _ _ h => h) (Or.inl ⟨by rfl, ?_⟩) ?_ ?_; rotate_left 2; (intro w'; go_simp; with_reducible rfl); (simp only [zps]; rfl)
         refine pz_ 24 34 ?_ ?_ (bz 25 33554431) rfl rfl (za3 HT_.out (by kernel_rfl)) (fun _ _ _ h => h) (Or.inl ⟨by rfl, ?_⟩) ?_ ?_; rotate_left 2; (intro w'; go_simp; with_reducible rfl); (simp only [zps]; rfl)
         refine done_ (done_of HT_.out (by kernel_rfl)) ?_
         obtain ⟨d37_0, d37_1, d37_2, d37_3, d37_4⟩ := cq5 BK149.out
         obtain ⟨e37_0, e37_1, e37_2, e37_3, e37_4⟩ := fq5 BK149.out
         try go_wp2_with (first | ((with_reducible refine za2 (N := 61) rfl ?_); refine Kd.R_lit (Kd.int .i64) _ 3 ?hg (N := 61) ?hd (xs := ([t146] : List Int)) (inner := [.int .i64 t146]) (ok := fun _ => True) (okp := fun _ => True) ?hr ?hp (fun _ hk => hk) trivial (Below.refl _ _) (Nat.le_refl _) (by simp) ?_; (case hd => rfl); (case hg => rfl); (case hr => first | (go_simp; done) | (go_simp; rfl)); (case hp => exact (Reps.one (show Kd.M (Kd.int .i64) _ _ _ t146 [.int .i64 t146] from rfl) (Reps.none _ _))); intro v161 w38 ho39 hb hg_ hnew_; clear hg_ hnew_; (first | rw [← Ny160.out] at ho39 | (simp only [Int.reduceToNat] at ho39; rw [← Ny160.out] at ho39)); have n0_ := zab.mk (Kd.zcd ho39 (zaq (by repeat with_reducible first | exact HB.out | apply zac | apply zaa | apply zad | refine zag ?_ GE149.out))); have n1_ := zab.mk (zaw (g := gb149) (o := .cells #[.int .i64 t143, .int .i64 t144, .string t145, .int .i64 t146, .bool true] 78 (0, 0)) (by (with_reducible repeat (first | refine zaj ?_ _ | refine zam ?_ | refine zak ?_ _)); exact BK149.out) hb); have n2_ := zab.mk (zal (by repeat with_reducible first | exact HB.out | apply zac | apply zaa | apply zad | refine zag ?_ GE149.out) hb); clear BK149; clear HB; have HO162 := n0_; have BK149 := n1_; have HB := n2_; clear n0_ n1_ n2_; clear hb ho39))
         go_ret2
         exact ⟨_, by first | rfl | (simp [zao, zan] <;> rfl) | (simp [*, zao, zan] <;> rfl), by (with_reducible repeat (first | apply Kd.R_alloc | apply Kd.zbs | apply Kd.R_drew)); exact HO162.out, by repeat with_reducible first | exact HB.out | apply zac | apply zaa | apply zad | refine zag ?_ GE149.out⟩
        ·rw [if_neg c30] at H
         have c30b0 : (((zai l2 0).f0) == 0 && (((zai l2 0).f1) == 0 && ((((zai l2 0).f2).toList) == ([] : List UInt8)))) = false := by simpa using c30
         (try (have c30b5 : (((zai l2 0).f0) == 0 && (((zai l2 0).f1) == 0 && ((((zai l2 0).f2).toList).isEmpty))) = false := by simp only [show ∀ l : List UInt8, l.isEmpty = (l == []) from fun l => by cases l <;> rfl]; exact c30b0))
         (try (have c30b1 : decide (((zai l2 0).f0) = 0 && (((zai l2 0).f1) == 0 && ((((zai l2 0).f2).toList) == ([] : List UInt8)))) = false := by simpa using c30))
         (try (have c30b2 : (((zai l2 0).f0) == 0 && (((zai l2 0).f1) == 0 && ((((zai l2 0).f2).toList) == ([] : List UInt8)))) = false := by simpa using c30))
         (try (have c30b3 : ¬ (((zai l2 0).f0) = 0 && (((zai l2 0).f1) == 0 && ((((zai l2 0).f2).toList) == ([] : List UInt8)))) := by simpa using c30))
         clear c30
         simp only [Option.some.injEq, Prod.mk.injEq] at H
         obtain ⟨rfl, rfl⟩ := H
         go_enter Tryd.func34, Tryd.ntmps34
         try go_wp2_with (first | ((with_reducible refine za6 (f := 45) rfl ?_); refine zbo (some 13) rfl rfl Tryd.func45 (by kernel_rfl) rfl #[.int .i64 a0, .int .i64 a1] rfl (by (try simp only [List.map_toArray, List.map_cons, List.map_nil]); first | done | rfl | (simp only [List.length_drop, List.length_take]; rfl)) ?_; (with_reducible refine (zbl.calls a0 a1 t143 t144 t145 t146 true true _ A4.out).mono ?_); rintro e w40 ⟨rfl, hb⟩; refine ⟨_, rfl, ?_⟩; have n0_ := zab.mk (zal (by repeat with_reducible first | exact HB.out | apply zac | apply zaa | apply zad) hb); clear HB; have HB := n0_; clear n0_; (try clear hb); (try clear hb2); (try clear hk); (try clear hi)) | ((with_reducible refine za2 (N := 8) rfl ?_); refine zay ?hg (N := 8) ?hd (cs := #[.int .i64 0, .int .i64 0, .string (⟨#[]⟩ : ByteArray), .int .i64 0, .bool false]) (t := 78) ?hr ?_; (case hd => rfl); (case hg => rfl); (case hr => first | (go_simp; done) | (go_simp; rfl)); intro gb149 hg w41 hbox hb; have n0_ := zab.mk (zal (by repeat with_reducible first | exact HB.out | apply zac | apply zaa | apply zad) hb); have n1_ := zab.mk (hbox); have n2_ := zab.mk ((by rw [hg]; exact (zaq (by repeat with_reducible first | exact HB.out | apply zac | apply zaa | apply zad)) : w.heap.size ≤ gb149)); have n3_ := n2_; clear HB; have HB := n0_; have BK149 := n1_; have GW149 := n2_; have GE149 := n3_; clear n0_ n1_ n2_ n3_; clear hb hbox hg; obtain ⟨d42_0, d42_1, d42_2, d42_3, d42_4⟩ := cq5 BK149.out; obtain ⟨e42_0, e42_1, e42_2, e42_3, e42_4⟩ := fq5 BK149.out))
         have n0_ : zab ((((((w41.setCell ⟨gb149, 0, none⟩ (.int .i64 t143)).setCell ⟨gb149, 1, none⟩ (.int .i64 t144)).setCell ⟨gb149, 2, none⟩ (.string t145)).setCell ⟨gb149, 3, none⟩ (.int .i64 t146)).setCell ⟨gb149, 4, none⟩ (.bool true)).heap[gb149]? = some (.cells #[.int .i64 t143, .int .i64 t144, .string t145, .int .i64 t146, .bool true] 78 (0, 0))) := ⟨by (with_reducible repeat (first | refine zaj ?_ _ | refine zam ?_ | refine zak ?_ _)); refine pq5 (.int .i64 0) (.int .i64 0) (.string (⟨#[]⟩ : ByteArray)) (.int .i64 0) (.bool false) ?_; (with_reducible repeat (first | refine zaj ?_ _ | refine zam ?_ | refine zak ?_ _)); exact BK149.out⟩
         have n1_ : zab (Below w.heap.size w (((((w41.setCell ⟨gb149, 0, none⟩ (.int .i64 t143)).setCell ⟨gb149, 1, none⟩ (.int .i64 t144)).setCell ⟨gb149, 2, none⟩ (.string t145)).setCell ⟨gb149, 3, none⟩ (.int .i64 t146)).setCell ⟨gb149, 4, none⟩ (.bool true))) := ⟨by repeat with_reducible first | exact HB.out | apply zac | apply zaa | apply zad | refine zag ?_ GE149.out⟩
         try clear BK149
         try clear HB
         generalize (((((w41.setCell ⟨gb149, 0, none⟩ (.int .i64 t143)).setCell ⟨gb149, 1, none⟩ (.int .i64 t144)).setCell ⟨gb149, 2, none⟩ (.string t145)).setCell ⟨gb149, 3, none⟩ (.int .i64 t146)).setCell ⟨gb149, 4, none⟩ (.bool true)) = w43 at n0_ n1_ ⊢
         have BK149 := n0_
         have HB := n1_
         clear n0_ n1_
         have n0_ := zab.mk (zam BK149.out)
         have n1_ := zab.mk (zad HB.out)
         clear BK149
         clear HB
         have BK149 := n0_
         have HB := n1_
         clear n0_ n1_
         have p154 : 0 ≤ (0 : Int) := (by omega)
         have q154 : 0 < (l2.length : Int) := of_decide_eq_true (by first | (with_reducible assumption) | assumption)
         obtain ⟨ad154, e154, hx154_0, hx154_1, hx154_2⟩ := zcb HR2.out 0 p154 q154
         have hw154_2 := hx154_2
         (try rw [show ((0 : Int)).toNat = 0 from rfl] at hw154_2)
         (try rw [show 0 * 3 = 0 from rfl] at hw154_2)
         (try rw [Addr.add_zero'] at hw154_2)
         have hw154_1 := hx154_1
         (try rw [show ((0 : Int)).toNat = 0 from rfl] at hw154_1)
         (try rw [show 0 * 3 = 0 from rfl] at hw154_1)
         (try rw [Addr.add_zero'] at hw154_1)
         have hw154_0 := hx154_0
         (try rw [show ((0 : Int)).toNat = 0 from rfl] at hw154_0)
         (try rw [show 0 * 3 = 0 from rfl] at hw154_0)
         (try rw [Addr.add_zero'] at hw154_0)
         cases e154
         have qi154 : (0 < l2.length) = True := eq_true (by omega)
         (try rw [show ((0 : Int)).toNat = 0 from rfl] at hx154_0)
         (try rw [show 0 * 3 = 0 from rfl] at hx154_0)
         (try rw [Addr.add_zero'] at hx154_0)
         (try rw [show ((0 : Int)).toNat = 0 from rfl] at hx154_1)
         (try rw [show 0 * 3 = 0 from rfl] at hx154_1)
         (try rw [Addr.add_zero'] at hx154_1)
         (try rw [show ((0 : Int)).toNat = 0 from rfl] at hx154_2)
         (try rw [show 0 * 3 = 0 from rfl] at hx154_2)
         (try rw [Addr.add_zero'] at hx154_2)
         replace hx154_0 := zaf HB.out hx154_0
         replace hx154_1 := zaf HB.out hx154_1
         replace hx154_2 := zaf HB.out hx154_2
         replace p154 := eq_true p154
         replace q154 := eq_true q154
         have p159 : 0 ≤ (0 : Int) := (by omega)
         have q159 : 0 < (l2.length : Int) := of_decide_eq_true (by first | (with_reducible assumption) | assumption)
         obtain ⟨ad159, e159, hx159_0, hx159_1, hx159_2⟩ := zcb HR2.out 0 p159 q159
         have hw159_2 := hx159_2
         (try rw [show ((0 : Int)).toNat = 0 from rfl] at hw159_2)
         (try rw [show 0 * 3 = 0 from rfl] at hw159_2)
         (try rw [Addr.add_zero'] at hw159_2)
         have hw159_1 := hx159_1
         (try rw [show ((0 : Int)).toNat = 0 from rfl] at hw159_1)
         (try rw [show 0 * 3 = 0 from rfl] at hw159_1)
         (try rw [Addr.add_zero'] at hw159_1)
         have hw159_0 := hx159_0
         (try rw [show ((0 : Int)).toNat = 0 from rfl] at hw159_0)
         (try rw [show 0 * 3 = 0 from rfl] at hw159_0)
         (try rw [Addr.add_zero'] at hw159_0)
         obtain rfl : ad154 = ad159 := (by injection e159)
         have qi159 : (0 < l2.length) = True := eq_true (by omega)
         (try rw [show ((0 : Int)).toNat = 0 from rfl] at hx159_0)
         (try rw [show 0 * 3 = 0 from rfl] at hx159_0)
         (try rw [Addr.add_zero'] at hx159_0)
         (try rw [show ((0 : Int)).toNat = 0 from rfl] at hx159_1)
         (try rw [show 0 * 3 = 0 from rfl] at hx159_1)
         (try rw [Addr.add_zero'] at hx159_1)
         (try rw [show ((0 : Int)).toNat = 0 from rfl] at hx159_2)
         (try rw [show 0 * 3 = 0 from rfl] at hx159_2)
         (try rw [Addr.add_zero'] at hx159_2)
         replace hx159_0 := zaf HB.out hx159_0
         replace hx159_1 := zaf HB.out hx159_1
         replace hx159_2 := zaf HB.out hx159_2
         replace p159 := eq_true p159
         replace q159 := eq_true q159
         refine start_ (n := 25) (S := fun w' => w'.cell? ⟨gb149, 0, none⟩ = some (.int .i64 t143) ∧ w'.cell? ⟨gb149, 1, none⟩ = some (.int .i64 t144) ∧ w'.cell? ⟨gb149, 2, none⟩ = some (.string t145) ∧ w'.cell? ⟨gb149, 3, none⟩ = some (.int .i64 t146) ∧ w'.cell? ⟨gb149, 4, none⟩ = some (.bool true) ∧ w'.cell? ad154 = some (.int .i64 ((zai l2 0).f0)) ∧ w'.cell? ⟨ad154.block, ad154.off + 1, none⟩ = some (.int .i64 ((zai l2 0).f1)) ∧ w'.cell? ⟨ad154.block, ad154.off + 2, none⟩ = some (.string ((zai l2 0).f2)) ∧ w'.cell? ad154 = some (.int .i64 ((zai l2 0).f0)) ∧ w'.cell? ⟨ad154.block, ad154.off + 1, none⟩ = some (.int .i64 ((zai l2 0).f1)) ∧ w'.cell? ⟨ad154.block, ad154.off + 2, none⟩ = some (.string ((zai l2 0).f2))) (ds := []) #[false, false, false, false, false, false, false, false, false, false, false, false, false, false, false, false, false, false, false, false, false, false, false, false, false] (by kernel_rfl) rfl rfl ⟨(zae BK149.out 0).trans rfl, (zae BK149.out 1).trans rfl, (zae BK149.out 2).trans rfl, (zae BK149.out 3).trans rfl, (zae BK149.out 4).trans rfl, (zaf HB.out hw154_0), (zaf HB.out hw154_1), (zaf HB.out hw154_2), (zaf HB.out hw159_0), (zaf HB.out hw159_1), (zaf HB.out hw159_2)⟩ (fun hHeld => ?_); refine with_tabW zbf.tab8 zbf.bits8 (fun HT_ HW_ => ?_)
         generalize w43.drew = w44 at BK149 HB hx154_0 hx154_1 hx154_2 hx159_0 hx159_1 hx159_2 hHeld ⊢
         refine pz_ 0 35 ?_ ?_ (bz 25 1) rfl rfl (za3 HT_.out (by kernel_rfl)) (fun _ _ _ h => h) (Or.inl ⟨by rfl, ?_⟩) ?_ ?_; rotate_left 2; (intro w'; go_simp; with_reducible rfl); (simp only [zps]; rfl)
         refine pz_ 1 36 ?_ ?_ (bz 25 3) rfl rfl (za3 HT_.out (by kernel_rfl)) (fun _ _ _ h => h) (Or.inl ⟨by rfl, ?_⟩) ?_ ?_; rotate_left 2; (intro w'; go_simp; with_reducible rfl); (simp only [zps]; rfl)
         refine pz_ 2 37 ?_ ?_ (bz 25 7) rfl rfl (za3 HT_.out (by kernel_rfl)) (fun _ _ _ h => h) (Or.inl ⟨by rfl, ?_⟩) ?_ ?_; rotate_left 2; (intro w'; go_simp; with_reducible rfl); (simp only [zps]; rfl)
         refine pz_ 3 38 ?_ ?_ (bz 25 15) rfl rfl (za3 HT_.out (by kernel_rfl)) (fun _ _ _ h => h) (Or.inl ⟨by rfl, ?_⟩) ?_ ?_; rotate_left 2; (intro w'; go_simp; with_reducible rfl); (simp only [zps]; rfl)
         refine pz_ 4 39 ?_ ?_ (bz 25 31) rfl rfl (za3 HT_.out (by kernel_rfl)) (fun _ _ _ h => h) (Or.inl ⟨by rfl, ?_⟩) ?_ ?_; rotate_left 2; (intro w'; go_simp; with_reducible rfl); (simp only [zps]; rfl)
         refine pz_ 6 41 ?_ ?_ (bz 25 95) rfl rfl (za3 HT_.out (by kernel_rfl)) (fun _ _ _ h => h) (Or.inl ⟨by rfl, ?_⟩) ?_ ?_; rotate_left 2; (intro w'; go_simp; with_reducible rfl); (simp only [zps]; rfl)
         refine pz_ 7 42 ?_ ?_ (bz 25 223) rfl rfl (za3 HT_.out (by kernel_rfl)) (fun _ _ _ h => h) (Or.inl ⟨by rfl, ?_⟩) ?_ ?_; rotate_left 2; (intro w'; go_simp; with_reducible rfl); (simp only [zps]; rfl)
         refine tz_ 5 40 ?_ ?_ (bz 25 255) rfl rfl (zb4 HT_.out HW_.out (by kernel_rfl)) (fun _ _ _ h => h) (Or.inl ⟨by rfl, ?_⟩) hHeld ?_ ?_; rotate_left 2; (rintro w' ⟨s0, s1, s2, s3, s4, s5, s6, s7, s8, s9, s10⟩; go_simp; with_reducible rfl); (simp only [zps]; rfl)
         refine tz_ 8 43 ?_ ?_ (bz 25 511) rfl rfl (zb4 HT_.out HW_.out (by kernel_rfl)) (fun _ _ _ h => h) (Or.inl ⟨by rfl, ?_⟩) hHeld ?_ ?_; rotate_left 2; (rintro w' ⟨s0, s1, s2, s3, s4, s5, s6, s7, s8, s9, s10⟩; go_simp; with_reducible rfl); (simp only [zps]; rfl)
         refine one_ (i := 9) (N := some 44) (bz 25 1023) rfl rfl (one_of HT_.out (by kernel_rfl)) (by decide) (fun K hK => ?_)
         refine goes_ Tryd.func40 (by kernel_rfl) rfl #[.int .i64 t146, .agg #[.int .i64 ((zai l2 0).f0), .int .i64 ((zai l2 0).f1), .string ((zai l2 0).f2)]] (by rfl) rfl rfl (by (try simp only [List.map_toArray, List.map_cons, List.map_nil]); first | done | rfl | (simp only [List.length_drop, List.length_take]; rfl)) ?_
         with_reducible refine (zas.calls k t146 ((zai l2 0).f0) ((zai l2 0).f1) ((zai l2 0).f2) false _ ?side0 A18.out).mono ?_
         (case side0 => exact za7 HG.out (by repeat with_reducible first | exact HB.out | apply zac | apply zaa | apply zad | refine zag ?_ GE149.out))
         rintro e w45 ⟨rfl, hb⟩
         refine ⟨_, rfl, ?_⟩
         have n0_ := zab.mk (zaw (g := gb149) (o := .cells #[.int .i64 t143, .int .i64 t144, .string t145, .int .i64 t146, .bool true] 78 (0, 0)) (by (with_reducible repeat (first | refine zaj ?_ _ | refine zam ?_ | refine zak ?_ _)); exact BK149.out) hb)
         have n1_ := zab.mk (zal (by repeat with_reducible first | exact HB.out | apply zac | apply zaa | apply zad | refine zag ?_ GE149.out) hb)
         clear BK149
         clear HB
         have BK149 := n0_
         have HB := n1_
         clear n0_ n1_
         try clear hb
         try clear hb2
         try clear hk
         try clear hi
         refine hK.out _ _ ⟨(zae BK149.out 0).trans rfl, (zae BK149.out 1).trans rfl, (zae BK149.out 2).trans rfl, (zae BK149.out 3).trans rfl, (zae BK149.out 4).trans rfl, (zaf HB.out hw154_0), (zaf HB.out hw154_1), (zaf HB.out hw154_2), (zaf HB.out hw159_0), (zaf HB.out hw159_1), (zaf HB.out hw159_2)⟩ (fun hHeld => ?_)
         clear hK K
         refine norm_ (a' := ?_) ?_ ?_
         rotate_left
         ·show Act.put _ (some 44) _ = _
          simp only [zps]
          rfl
         refine pz_ 10 45 ?_ ?_ (bz 25 2047) rfl rfl (za3 HT_.out (by kernel_rfl)) (fun _ _ _ h => h) (Or.inl ⟨by rfl, ?_⟩) ?_ ?_; rotate_left 2; (intro w'; go_simp; with_reducible rfl); (simp only [zps]; rfl)
         refine pz_ 11 46 ?_ ?_ (bz 25 4095) rfl rfl (za3 HT_.out (by kernel_rfl)) (fun _ _ _ h => h) (Or.inl ⟨by rfl, ?_⟩) ?_ ?_; rotate_left 2; (intro w'; go_simp; with_reducible rfl); (simp only [zps]; rfl)
         refine pz_ 12 47 ?_ ?_ (bz 25 8191) rfl rfl (za3 HT_.out (by kernel_rfl)) (fun _ _ _ h => h) (Or.inl ⟨by rfl, ?_⟩) ?_ ?_; rotate_left 2; (intro w'; go_simp; with_reducible rfl); (simp only [zps]; rfl)
         refine tz_ 13 48 ?_ ?_ (bz 25 16383) rfl rfl (zb4 HT_.out HW_.out (by kernel_rfl)) (fun _ _ _ h => h) (Or.inl ⟨by rfl, ?_⟩) hHeld ?_ ?_; rotate_left 2; (rintro w' ⟨s0, s1, s2, s3, s4, s5, s6, s7, s8, s9, s10⟩; go_simp; with_reducible rfl); (simp only [zps]; rfl)
         refine pz_ 14 49 ?_ ?_ (bz 25 32767) rfl rfl (za3 HT_.out (by kernel_rfl)) (fun _ _ _ h => h) (Or.inl ⟨by rfl, ?_⟩) ?_ ?_; rotate_left 2; (intro w'; go_simp; with_reducible rfl); (simp only [zps]; rfl)
         refine pz_ 15 50 ?_ ?_ (bz 25 65535) rfl rfl (za3 HT_.out (by kernel_rfl)) (fun _ _ _ h => h) (Or.inl ⟨by rfl, ?_⟩) ?_ ?_; rotate_left 2; (intro w'; go_simp; with_reducible rfl); (simp only [zps]; rfl)
         refine pz_ 16 51 ?_ ?_ (bz 25 131071) rfl rfl (za3 HT_.out (by kernel_rfl)) (fun _ _ _ h => h) (Or.inl ⟨by rfl, ?_⟩) ?_ ?_; rotate_left 2; (intro w'; go_simp; with_reducible rfl); (simp only [zps]; rfl)
         refine pz_ 18 53 ?_ ?_ (bz 25 393215) rfl rfl (za3 HT_.out (by kernel_rfl)) (fun _ _ _ h => h) (Or.inl ⟨by rfl, ?_⟩) ?_ ?_; rotate_left 2; (intro w'; go_simp; with_reducible rfl); (simp only [zps]; rfl)
         refine tz_ 17 52 ?_ ?_ (bz 25 524287) rfl rfl (zb4 HT_.out HW_.out (by kernel_rfl)) (fun _ _ _ h => h) (Or.inl ⟨by rfl, ?_⟩) hHeld ?_ ?_; rotate_left 2; (rintro w' ⟨s0, s1, s2, s3, s4, s5, s6, s7, s8, s9, s10⟩; go_simp; with_reducible rfl); (simp only [zps]; rfl)
         refine pz_ 19 54 ?_ ?_ (bz 25 1048575) rfl rfl (za3 HT_.out (by kernel_rfl)) (fun _ _ _ h => h) (Or.inl ⟨by rfl, ?_⟩) ?_ ?_; rotate_left 2; (intro w'; go_simp; with_reducible rfl); (simp only [zps]; rfl)
         refine pz_ 20 55 ?_ ?_ (bz 25 2097151) rfl rfl (za3 HT_.out (by kernel_rfl)) (fun _ _ _ h => h) (Or.inl ⟨by rfl, ?_⟩) ?_ ?_; rotate_left 2; (intro w'; go_simp; with_reducible rfl); (simp only [zps]; rfl)
         refine pz_ 21 56 ?_ ?_ (bz 25 4194303) rfl rfl (za3 HT_.out (by kernel_rfl)) (fun _ _ _ h => h) (Or.inl ⟨by rfl, ?_⟩) ?_ ?_; rotate_left 2; (intro w'; go_simp; with_reducible rfl); (simp only [zps]; rfl)
         refine pz_ 22 57 ?_ ?_ (bz 25 8388607) rfl rfl (za3 HT_.out (by kernel_rfl)) (fun _ _ _ h => h) (Or.inl ⟨by rfl, ?_⟩) ?_ ?_; rotate_left 2; (intro w'; go_simp; with_reducible rfl); (simp only [zps]; rfl)
         refine pz_ 23 58 ?_ ?_ (bz 25 16777215) rfl rfl (za3 HT_.out (by kernel_rfl)) (fun _ _ _ h => h) (Or.inl ⟨by rfl, ?_⟩) ?_ ?_; rotate_left 2; (intro w'; go_simp; with_reducible rfl); (simp only [zps]; rfl)
         refine pz_ 24 34 ?_ ?_ (bz 25 33554431) rfl rfl (za3 HT_.out (by kernel_rfl)) (fun _ _ _ h => h) (Or.inl ⟨by rfl, ?_⟩) ?_ ?_; rotate_left 2; (intro w'; go_simp; with_reducible rfl); (simp only [zps]; rfl)
         refine done_ (done_of HT_.out (by kernel_rfl)) ?_
         try go_wp2
         go_ret2
         exact ⟨_, by first | rfl | (simp [zao, zan] <;> rfl) | (simp [*, zao, zan] <;> rfl), by first | exact Kd.R_nil _ _ _ _ _ | exact Kd.N_nil _ _ _ _ _ | exact Kd.V_nil _ _ _ _ _ | exact Kd.Q_nil _ _ _ _ _ | exact Kd.S_nil _ _ _ _ _, by repeat with_reducible first | exact HB.out | apply zac | apply zaa | apply zad | refine zag ?_ GE149.out⟩
       ·replace c29 := Bool.eq_false_iff.mpr c29
        subst c29
        have H1 : (some (([] : List Int), false)) = some (r1, r2) := by rw [if_neg (show ¬ (false = true) by decide)] at H; exact H
        clear H
        have H := H1
        clear H1
        simp only [Option.some.injEq, Prod.mk.injEq] at H
        obtain ⟨rfl, rfl⟩ := H
        go_enter Tryd.func34, Tryd.ntmps34
        try go_wp2_with (first | ((with_reducible refine za6 (f := 45) rfl ?_); refine zbo (some 13) rfl rfl Tryd.func45 (by kernel_rfl) rfl #[.int .i64 a0, .int .i64 a1] rfl (by (try simp only [List.map_toArray, List.map_cons, List.map_nil]); first | done | rfl | (simp only [List.length_drop, List.length_take]; rfl)) ?_; (with_reducible refine (zbl.calls a0 a1 t143 t144 t145 t146 false true _ A4.out).mono ?_); rintro e w46 ⟨rfl, hb⟩; refine ⟨_, rfl, ?_⟩; have n0_ := zab.mk (zal (by repeat with_reducible first | exact HB.out | apply zac | apply zaa | apply zad) hb); clear HB; have HB := n0_; clear n0_; (try clear hb); (try clear hb2); (try clear hk); (try clear hi)) | ((with_reducible refine za2 (N := 8) rfl ?_); refine zay ?hg (N := 8) ?hd (cs := #[.int .i64 0, .int .i64 0, .string (⟨#[]⟩ : ByteArray), .int .i64 0, .bool false]) (t := 78) ?hr ?_; (case hd => rfl); (case hg => rfl); (case hr => first | (go_simp; done) | (go_simp; rfl)); intro gb149 hg w47 hbox hb; have n0_ := zab.mk (zal (by repeat with_reducible first | exact HB.out | apply zac | apply zaa | apply zad) hb); have n1_ := zab.mk (hbox); have n2_ := zab.mk ((by rw [hg]; exact (zaq (by repeat with_reducible first | exact HB.out | apply zac | apply zaa | apply zad)) : w.heap.size ≤ gb149)); have n3_ := n2_; clear HB; have HB := n0_; have BK149 := n1_; have GW149 := n2_; have GE149 := n3_; clear n0_ n1_ n2_ n3_; clear hb hbox hg; obtain ⟨d48_0, d48_1, d48_2, d48_3, d48_4⟩ := cq5 BK149.out; obtain ⟨e48_0, e48_1, e48_2, e48_3, e48_4⟩ := fq5 BK149.out))
        have n0_ : zab ((((((w47.setCell ⟨gb149, 0, none⟩ (.int .i64 t143)).setCell ⟨gb149, 1, none⟩ (.int .i64 t144)).setCell ⟨gb149, 2, none⟩ (.string t145)).setCell ⟨gb149, 3, none⟩ (.int .i64 t146)).setCell ⟨gb149, 4, none⟩ (.bool false)).heap[gb149]? = some (.cells #[.int .i64 t143, .int .i64 t144, .string t145, .int .i64 t146, .bool false] 78 (0, 0))) := ⟨by (with_reducible repeat (first | refine zaj ?_ _ | refine zam ?_ | refine zak ?_ _)); refine pq5 (.int .i64 0) (.int .i64 0) (.string (⟨#[]⟩ : ByteArray)) (.int .i64 0) (.bool false) ?_; (with_reducible repeat (first | refine zaj ?_ _ | refine zam ?_ | refine zak ?_ _)); exact BK149.out⟩
        have n1_ : zab (Below w.heap.size w (((((w47.setCell ⟨gb149, 0, none⟩ (.int .i64 t143)).setCell ⟨gb149, 1, none⟩ (.int .i64 t144)).setCell ⟨gb149, 2, none⟩ (.string t145)).setCell ⟨gb149, 3, none⟩ (.int .i64 t146)).setCell ⟨gb149, 4, none⟩ (.bool false))) := ⟨by repeat with_reducible first | exact HB.out | apply zac | apply zaa | apply zad | refine zag ?_ GE149.out⟩
        try clear BK149
        try clear HB
        generalize (((((w47.setCell ⟨gb149, 0, none⟩ (.int .i64 t143)).setCell ⟨gb149, 1, none⟩ (.int .i64 t144)).setCell ⟨gb149, 2, none⟩ (.string t145)).setCell ⟨gb149, 3, none⟩ (.int .i64 t146)).setCell ⟨gb149, 4, none⟩ (.bool false)) = w49 at n0_ n1_ ⊢
        have BK149 := n0_
        have HB := n1_
        clear n0_ n1_
        have n0_ := zab.mk (zam BK149.out)
        have n1_ := zab.mk (zad HB.out)
        clear BK149
        clear HB
        have BK149 := n0_
        have HB := n1_
        clear n0_ n1_
        have p154 : 0 ≤ (0 : Int) := (by omega)
        have q154 : 0 < (l2.length : Int) := of_decide_eq_true (by first | (with_reducible assumption) | assumption)
        obtain ⟨ad154, e154, hx154_0, hx154_1, hx154_2⟩ := zcb HR2.out 0 p154 q154
        have hw154_2 := hx154_2
        (try rw [show ((0 : Int)).toNat = 0 from rfl] at hw154_2)
        (try rw [show 0 * 3 = 0 from rfl] at hw154_2)
        (try rw [Addr.add_zero'] at hw154_2)
        have hw154_1 := hx154_1
        (try rw [show ((0 : Int)).toNat = 0 from rfl] at hw154_1)
        (try rw [show 0 * 3 = 0 from rfl] at hw154_1)
        (try rw [Addr.add_zero'] at hw154_1)
        have hw154_0 := hx154_0
        (try rw [show ((0 : Int)).toNat = 0 from rfl] at hw154_0)
        (try rw [show 0 * 3 = 0 from rfl] at hw154_0)
        (try rw [Addr.add_zero'] at hw154_0)
        cases e154
        have qi154 : (0 < l2.length) = True := eq_true (by omega)
        (try rw [show ((0 : Int)).toNat = 0 from rfl] at hx154_0)
        (try rw [show 0 * 3 = 0 from rfl] at hx154_0)
        (try rw [Addr.add_zero'] at hx154_0)
        (try rw [show ((0 : Int)).toNat = 0 from rfl] at hx154_1)
        (try rw [show 0 * 3 = 0 from rfl] at hx154_1)
        (try rw [Addr.add_zero'] at hx154_1)
        (try rw [show ((0 : Int)).toNat = 0 from rfl] at hx154_2)
        (try rw [show 0 * 3 = 0 from rfl] at hx154_2)
        (try rw [Addr.add_zero'] at hx154_2)
        replace hx154_0 := zaf HB.out hx154_0
        replace hx154_1 := zaf HB.out hx154_1
        replace hx154_2 := zaf HB.out hx154_2
        replace p154 := eq_true p154
        replace q154 := eq_true q154
        refine start_ (n := 25) (S := fun w' => w'.cell? ⟨gb149, 0, none⟩ = some (.int .i64 t143) ∧ w'.cell? ⟨gb149, 1, none⟩ = some (.int .i64 t144) ∧ w'.cell? ⟨gb149, 2, none⟩ = some (.string t145) ∧ w'.cell? ⟨gb149, 3, none⟩ = some (.int .i64 t146) ∧ w'.cell? ⟨gb149, 4, none⟩ = some (.bool false) ∧ w'.cell? ad154 = some (.int .i64 ((zai l2 0).f0)) ∧ w'.cell? ⟨ad154.block, ad154.off + 1, none⟩ = some (.int .i64 ((zai l2 0).f1)) ∧ w'.cell? ⟨ad154.block, ad154.off + 2, none⟩ = some (.string ((zai l2 0).f2))) (ds := []) #[false, false, false, false, false, false, false, false, false, false, false, false, false, false, false, false, false, false, false, false, false, false, false, false, false] (by kernel_rfl) rfl rfl ⟨(zae BK149.out 0).trans rfl, (zae BK149.out 1).trans rfl, (zae BK149.out 2).trans rfl, (zae BK149.out 3).trans rfl, (zae BK149.out 4).trans rfl, (zaf HB.out hw154_0), (zaf HB.out hw154_1), (zaf HB.out hw154_2)⟩ (fun hHeld => ?_); refine with_tabW zbf.tab8 zbf.bits8 (fun HT_ HW_ => ?_)
        generalize w49.drew = w50 at BK149 HB hx154_0 hx154_1 hx154_2 hHeld ⊢
        refine pz_ 0 35 ?_ ?_ (bz 25 1) rfl rfl (za3 HT_.out (by kernel_rfl)) (fun _ _ _ h => h) (Or.inl ⟨by rfl, ?_⟩) ?_ ?_; rotate_left 2; (intro w'; go_simp; with_reducible rfl); (simp only [zps]; rfl)
        refine pz_ 1 36 ?_ ?_ (bz 25 3) rfl rfl (za3 HT_.out (by kernel_rfl)) (fun _ _ _ h => h) (Or.inl ⟨by rfl, ?_⟩) ?_ ?_; rotate_left 2; (intro w'; go_simp; with_reducible rfl); (simp only [zps]; rfl)
        refine pz_ 2 37 ?_ ?_ (bz 25 7) rfl rfl (za3 HT_.out (by kernel_rfl)) (fun _ _ _ h => h) (Or.inl ⟨by rfl, ?_⟩) ?_ ?_; rotate_left 2; (intro w'; go_simp; with_reducible rfl); (simp only [zps]; rfl)
        refine pz_ 3 38 ?_ ?_ (bz 25 15) rfl rfl (za3 HT_.out (by kernel_rfl)) (fun _ _ _ h => h) (Or.inl ⟨by rfl, ?_⟩) ?_ ?_; rotate_left 2; (intro w'; go_simp; with_reducible rfl); (simp only [zps]; rfl)
        refine pz_ 4 39 ?_ ?_ (bz 25 31) rfl rfl (za3 HT_.out (by kernel_rfl)) (fun _ _ _ h => h) (Or.inl ⟨by rfl, ?_⟩) ?_ ?_; rotate_left 2; (intro w'; go_simp; with_reducible rfl); (simp only [zps]; rfl)
        refine pz_ 6 41 ?_ ?_ (bz 25 95) rfl rfl (za3 HT_.out (by kernel_rfl)) (fun _ _ _ h => h) (Or.inl ⟨by rfl, ?_⟩) ?_ ?_; rotate_left 2; (intro w'; go_simp; with_reducible rfl); (simp only [zps]; rfl)
        refine pz_ 7 42 ?_ ?_ (bz 25 223) rfl rfl (za3 HT_.out (by kernel_rfl)) (fun _ _ _ h => h) (Or.inl ⟨by rfl, ?_⟩) ?_ ?_; rotate_left 2; (intro w'; go_simp; with_reducible rfl); (simp only [zps]; rfl)
        refine tz_ 5 40 ?_ ?_ (bz 25 255) rfl rfl (zb4 HT_.out HW_.out (by kernel_rfl)) (fun _ _ _ h => h) (Or.inl ⟨by rfl, ?_⟩) hHeld ?_ ?_; rotate_left 2; (rintro w' ⟨s0, s1, s2, s3, s4, s5, s6, s7⟩; go_simp; with_reducible rfl); (simp only [zps]; rfl)
        refine tz_ 8 43 ?_ ?_ (bz 25 511) rfl rfl (zb4 HT_.out HW_.out (by kernel_rfl)) (fun _ _ _ h => h) (Or.inl ⟨by rfl, ?_⟩) hHeld ?_ ?_; rotate_left 2; (rintro w' ⟨s0, s1, s2, s3, s4, s5, s6, s7⟩; go_simp; with_reducible rfl); (simp only [zps]; rfl)
        refine one_ (i := 9) (N := some 44) (bz 25 1023) rfl rfl (one_of HT_.out (by kernel_rfl)) (by decide) (fun K hK => ?_)
        refine goes_ Tryd.func40 (by kernel_rfl) rfl #[.int .i64 t146, .agg #[.int .i64 ((zai l2 0).f0), .int .i64 ((zai l2 0).f1), .string ((zai l2 0).f2)]] (by rfl) rfl rfl (by (try simp only [List.map_toArray, List.map_cons, List.map_nil]); first | done | rfl | (simp only [List.length_drop, List.length_take]; rfl)) ?_
        with_reducible refine (zas.calls k t146 ((zai l2 0).f0) ((zai l2 0).f1) ((zai l2 0).f2) false _ ?side0 A18.out).mono ?_
        (case side0 => exact za7 HG.out (by repeat with_reducible first | exact HB.out | apply zac | apply zaa | apply zad | refine zag ?_ GE149.out))
        rintro e w51 ⟨rfl, hb⟩
        refine ⟨_, rfl, ?_⟩
        have n0_ := zab.mk (zaw (g := gb149) (o := .cells #[.int .i64 t143, .int .i64 t144, .string t145, .int .i64 t146, .bool false] 78 (0, 0)) (by (with_reducible repeat (first | refine zaj ?_ _ | refine zam ?_ | refine zak ?_ _)); exact BK149.out) hb)
        have n1_ := zab.mk (zal (by repeat with_reducible first | exact HB.out | apply zac | apply zaa | apply zad | refine zag ?_ GE149.out) hb)
        clear BK149
        clear HB
        have BK149 := n0_
        have HB := n1_
        clear n0_ n1_
        try clear hb
        try clear hb2
        try clear hk
        try clear hi
        refine hK.out _ _ ⟨(zae BK149.out 0).trans rfl, (zae BK149.out 1).trans rfl, (zae BK149.out 2).trans rfl, (zae BK149.out 3).trans rfl, (zae BK149.out 4).trans rfl, (zaf HB.out hw154_0), (zaf HB.out hw154_1), (zaf HB.out hw154_2)⟩ (fun hHeld => ?_)
        clear hK K
        refine norm_ (a' := ?_) ?_ ?_
        rotate_left
        ·show Act.put _ (some 44) _ = _
         simp only [zps]
         rfl
        refine pz_ 10 45 ?_ ?_ (bz 25 2047) rfl rfl (za3 HT_.out (by kernel_rfl)) (fun _ _ _ h => h) (Or.inl ⟨by rfl, ?_⟩) ?_ ?_; rotate_left 2; (intro w'; go_simp; with_reducible rfl); (simp only [zps]; rfl)
        refine pz_ 11 46 ?_ ?_ (bz 25 4095) rfl rfl (za3 HT_.out (by kernel_rfl)) (fun _ _ _ h => h) (Or.inl ⟨by rfl, ?_⟩) ?_ ?_; rotate_left 2; (intro w'; go_simp; with_reducible rfl); (simp only [zps]; rfl)
        refine pz_ 12 47 ?_ ?_ (bz 25 8191) rfl rfl (za3 HT_.out (by kernel_rfl)) (fun _ _ _ h => h) (Or.inl ⟨by rfl, ?_⟩) ?_ ?_; rotate_left 2; (intro w'; go_simp; with_reducible rfl); (simp only [zps]; rfl)
        refine tz_ 13 48 ?_ ?_ (bz 25 16383) rfl rfl (zb4 HT_.out HW_.out (by kernel_rfl)) (fun _ _ _ h => h) (Or.inl ⟨by rfl, ?_⟩) hHeld ?_ ?_; rotate_left 2; (rintro w' ⟨s0, s1, s2, s3, s4, s5, s6, s7⟩; go_simp; with_reducible rfl); (simp only [zps]; rfl)
        refine pz_ 14 49 ?_ ?_ (bz 25 32767) rfl rfl (za3 HT_.out (by kernel_rfl)) (fun _ _ _ h => h) (Or.inl ⟨by rfl, ?_⟩) ?_ ?_; rotate_left 2; (intro w'; go_simp; with_reducible rfl); (simp only [zps]; rfl)
        refine pz_ 15 50 undef ?_ (bz 25 65535) rfl rfl (za3 HT_.out (by kernel_rfl)) (fun _ _ _ h => h) (Or.inr ⟨by rfl, rfl⟩) ?_ ?_; rotate_left; (simp only [zps]; rfl)
        refine pz_ 16 51 undef ?_ (bz 25 131071) rfl rfl (za3 HT_.out (by kernel_rfl)) (fun _ _ _ h => h) (Or.inr ⟨by rfl, rfl⟩) ?_ ?_; rotate_left; (simp only [zps]; rfl)
        refine pz_ 17 52 undef ?_ (bz 25 262143) rfl rfl (za3 HT_.out (by kernel_rfl)) (fun _ _ _ h => h) (Or.inr ⟨by rfl, rfl⟩) ?_ ?_; rotate_left; (simp only [zps]; rfl)
        refine pz_ 18 53 undef ?_ (bz 25 524287) rfl rfl (za3 HT_.out (by kernel_rfl)) (fun _ _ _ h => h) (Or.inr ⟨by rfl, rfl⟩) ?_ ?_; rotate_left; (simp only [zps]; rfl)
        refine pz_ 19 54 undef ?_ (bz 25 1048575) rfl rfl (za3 HT_.out (by kernel_rfl)) (fun _ _ _ h => h) (Or.inr ⟨by rfl, rfl⟩) ?_ ?_; rotate_left; (simp only [zps]; rfl)
        refine pz_ 20 55 ?_ ?_ (bz 25 2097151) rfl rfl (za3 HT_.out (by kernel_rfl)) (fun _ _ _ h => h) (Or.inl ⟨by rfl, ?_⟩) ?_ ?_; rotate_left 2; (intro w'; go_simp; with_reducible rfl); (simp only [zps]; rfl)
        refine pz_ 21 56 ?_ ?_ (bz 25 4194303) rfl rfl (za3 HT_.out (by kernel_rfl)) (fun _ _ _ h => h) (Or.inl ⟨by rfl, ?_⟩) ?_ ?_; rotate_left 2; (intro w'; go_simp; with_reducible rfl); (simp only [zps]; rfl)
        refine pz_ 22 57 ?_ ?_ (bz 25 8388607) rfl rfl (za3 HT_.out (by kernel_rfl)) (fun _ _ _ h => h) (Or.inl ⟨by rfl, ?_⟩) ?_ ?_; rotate_left 2; (intro w'; go_simp; with_reducible rfl); (simp only [zps]; rfl)
        refine pz_ 23 58 ?_ ?_ (bz 25 16777215) rfl rfl (za3 HT_.out (by kernel_rfl)) (fun _ _ _ h => h) (Or.inl ⟨by rfl, ?_⟩) ?_ ?_; rotate_left 2; (intro w'; go_simp; with_reducible rfl); (simp only [zps]; rfl)
        refine pz_ 24 34 ?_ ?_ (bz 25 33554431) rfl rfl (za3 HT_.out (by kernel_rfl)) (fun _ _ _ h => h) (Or.inl ⟨by rfl, ?_⟩) ?_ ?_; rotate_left 2; (intro w'; go_simp; with_reducible rfl); (simp only [zps]; rfl)
        refine done_ (done_of HT_.out (by kernel_rfl)) ?_
        try go_wp2
        go_ret2
        exact ⟨_, by first | rfl | (simp [zao, zan] <;> rfl) | (simp [*, zao, zan] <;> rfl), by first | exact Kd.R_nil _ _ _ _ _ | exact Kd.N_nil _ _ _ _ _ | exact Kd.V_nil _ _ _ _ _ | exact Kd.Q_nil _ _ _ _ _ | exact Kd.S_nil _ _ _ _ _, by repeat with_reducible first | exact HB.out | apply zac | apply zaa | apply zad | refine zag ?_ GE149.out⟩
     ·rw [if_neg c17] at H
      exact absurd H (by simp)
    ·rw [if_neg c16] at H
     have c16b0 : ((l2.length : Int) == 1) = false := beq_eq_false_iff_ne.mpr c16
     have c16b1 : ((l2.length : Int) != 1) = true := bne_iff_ne.mpr c16
     simp only [Option.some.injEq, Prod.mk.injEq] at H
     obtain ⟨rfl, rfl⟩ := H
     go_enter Tryd.func34, Tryd.ntmps34
     try go_wp2_with (first | ((with_reducible refine za6 (f := 45) rfl ?_); refine zbo (some 13) rfl rfl Tryd.func45 (by kernel_rfl) rfl #[.int .i64 a0, .int .i64 a1] rfl (by (try simp only [List.map_toArray, List.map_cons, List.map_nil]); first | done | rfl | (simp only [List.length_drop, List.length_take]; rfl)) ?_; (with_reducible refine (zbl.calls a0 a1 t143 t144 t145 t146 t147 true _ A4.out).mono ?_); rintro e w52 ⟨rfl, hb⟩; refine ⟨_, rfl, ?_⟩; have n0_ := zab.mk (zal (by repeat with_reducible first | exact HB.out | apply zac | apply zaa | apply zad) hb); clear HB; have HB := n0_; clear n0_; (try clear hb); (try clear hb2); (try clear hk); (try clear hi)) | ((with_reducible refine za2 (N := 8) rfl ?_); refine zay ?hg (N := 8) ?hd (cs := #[.int .i64 0, .int .i64 0, .string (⟨#[]⟩ : ByteArray), .int .i64 0, .bool false]) (t := 78) ?hr ?_; (case hd => rfl); (case hg => rfl); (case hr => first | (go_simp; done) | (go_simp; rfl)); intro gb149 hg w53 hbox hb; have n0_ := zab.mk (zal (by repeat with_reducible first | exact HB.out | apply zac | apply zaa | apply zad) hb); have n1_ := zab.mk (hbox); have n2_ := zab.mk ((by rw [hg]; exact (zaq (by repeat with_reducible first | exact HB.out | apply zac | apply zaa | apply zad)) : w.heap.size ≤ gb149)); have n3_ := n2_; clear HB; have HB := n0_; have BK149 := n1_; have GW149 := n2_; have GE149 := n3_; clear n0_ n1_ n2_ n3_; clear hb hbox hg; obtain ⟨d54_0, d54_1, d54_2, d54_3, d54_4⟩ := cq5 BK149.out; obtain ⟨e54_0, e54_1, e54_2, e54_3, e54_4⟩ := fq5 BK149.out))
     have n0_ : zab ((((((w53.setCell ⟨gb149, 0, none⟩ (.int .i64 t143)).setCell ⟨gb149, 1, none⟩ (.int .i64 t144)).setCell ⟨gb149, 2, none⟩ (.string t145)).setCell ⟨gb149, 3, none⟩ (.int .i64 t146)).setCell ⟨gb149, 4, none⟩ (.bool t147)).heap[gb149]? = some (.cells #[.int .i64 t143, .int .i64 t144, .string t145, .int .i64 t146, .bool t147] 78 (0, 0))) := ⟨by (with_reducible repeat (first | refine zaj ?_ _ | refine zam ?_ | refine zak ?_ _)); refine pq5 (.int .i64 0) (.int .i64 0) (.string (⟨#[]⟩ : ByteArray)) (.int .i64 0) (.bool false) ?_; (with_reducible repeat (first | refine zaj ?_ _ | refine zam ?_ | refine zak ?_ _)); exact BK149.out⟩
     have n1_ : zab (Below w.heap.size w (((((w53.setCell ⟨gb149, 0, none⟩ (.int .i64 t143)).setCell ⟨gb149, 1, none⟩ (.int .i64 t144)).setCell ⟨gb149, 2, none⟩ (.string t145)).setCell ⟨gb149, 3, none⟩ (.int .i64 t146)).setCell ⟨gb149, 4, none⟩ (.bool t147))) := ⟨by repeat with_reducible first | exact HB.out | apply zac | apply zaa | apply zad | refine zag ?_ GE149.out⟩
     try clear BK149
     try clear HB
     generalize (((((w53.setCell ⟨gb149, 0, none⟩ (.int .i64 t143)).setCell ⟨gb149, 1, none⟩ (.int .i64 t144)).setCell ⟨gb149, 2, none⟩ (.string t145)).setCell ⟨gb149, 3, none⟩ (.int .i64 t146)).setCell ⟨gb149, 4, none⟩ (.bool t147)) = w55 at n0_ n1_ ⊢
     have BK149 := n0_
     have HB := n1_
     clear n0_ n1_
     have n0_ := zab.mk (zam BK149.out)
     have n1_ := zab.mk (zad HB.out)
     clear BK149
     clear HB
     have BK149 := n0_
     have HB := n1_
     clear n0_ n1_
     refine start_ (n := 25) (S := fun w' => True) (ds := []) #[false, false, false, false, false, false, false, false, false, false, false, false, false, false, false, false, false, false, false, false, false, false, false, false, false] (by kernel_rfl) rfl rfl trivial (fun hHeld => ?_); refine with_tabW zbf.tab8 zbf.bits8 (fun HT_ HW_ => ?_)
     generalize w55.drew = w56 at BK149 HB hHeld ⊢
     refine pz_ 0 35 ?_ ?_ (bz 25 1) rfl rfl (za3 HT_.out (by kernel_rfl)) (fun _ _ _ h => h) (Or.inl ⟨by rfl, ?_⟩) ?_ ?_; rotate_left 2; (intro w'; go_simp; with_reducible rfl); (simp only [zps]; rfl)
     refine pz_ 1 36 ?_ ?_ (bz 25 3) rfl rfl (za3 HT_.out (by kernel_rfl)) (fun _ _ _ h => h) (Or.inl ⟨by rfl, ?_⟩) ?_ ?_; rotate_left 2; (intro w'; go_simp; with_reducible rfl); (simp only [zps]; rfl)
     refine pz_ 2 37 ?_ ?_ (bz 25 7) rfl rfl (za3 HT_.out (by kernel_rfl)) (fun _ _ _ h => h) (Or.inl ⟨by rfl, ?_⟩) ?_ ?_; rotate_left 2; (intro w'; go_simp; with_reducible rfl); (simp only [zps]; rfl)
     refine pz_ 3 38 ?_ ?_ (bz 25 15) rfl rfl (za3 HT_.out (by kernel_rfl)) (fun _ _ _ h => h) (Or.inl ⟨by rfl, ?_⟩) ?_ ?_; rotate_left 2; (intro w'; go_simp; with_reducible rfl); (simp only [zps]; rfl)
     refine pz_ 4 39 undef ?_ (bz 25 31) rfl rfl (za3 HT_.out (by kernel_rfl)) (fun _ _ _ h => h) (Or.inr ⟨by rfl, rfl⟩) ?_ ?_; rotate_left; (simp only [zps]; rfl)
     refine pz_ 5 40 undef ?_ (bz 25 63) rfl rfl (za3 HT_.out (by kernel_rfl)) (fun _ _ _ h => h) (Or.inr ⟨by rfl, rfl⟩) ?_ ?_; rotate_left; (simp only [zps]; rfl)
     refine pz_ 6 41 undef ?_ (bz 25 127) rfl rfl (za3 HT_.out (by kernel_rfl)) (fun _ _ _ h => h) (Or.inr ⟨by rfl, rfl⟩) ?_ ?_; rotate_left; (simp only [zps]; rfl)
     refine pz_ 7 42 undef ?_ (bz 25 255) rfl rfl (za3 HT_.out (by kernel_rfl)) (fun _ _ _ h => h) (Or.inr ⟨by rfl, rfl⟩) ?_ ?_; rotate_left; (simp only [zps]; rfl)
     refine pz_ 8 43 undef ?_ (bz 25 511) rfl rfl (za3 HT_.out (by kernel_rfl)) (fun _ _ _ h => h) (Or.inr ⟨by rfl, rfl⟩) ?_ ?_; rotate_left; (simp only [zps]; rfl)
     refine pz_ 9 44 undef ?_ (bz 25 1023) rfl rfl (za3 HT_.out (by kernel_rfl)) (fun _ _ _ h => h) (Or.inr ⟨by rfl, rfl⟩) ?_ ?_; rotate_left; (simp only [zps]; rfl)
     refine pz_ 10 45 undef ?_ (bz 25 2047) rfl rfl (za3 HT_.out (by kernel_rfl)) (fun _ _ _ h => h) (Or.inr ⟨by rfl, rfl⟩) ?_ ?_; rotate_left; (simp only [zps]; rfl)
     refine pz_ 11 46 undef ?_ (bz 25 4095) rfl rfl (za3 HT_.out (by kernel_rfl)) (fun _ _ _ h => h) (Or.inr ⟨by rfl, rfl⟩) ?_ ?_; rotate_left; (simp only [zps]; rfl)
     refine pz_ 12 47 undef ?_ (bz 25 8191) rfl rfl (za3 HT_.out (by kernel_rfl)) (fun _ _ _ h => h) (Or.inr ⟨by rfl, rfl⟩) ?_ ?_; rotate_left; (simp only [zps]; rfl)
     refine pz_ 13 48 undef ?_ (bz 25 16383) rfl rfl (za3 HT_.out (by kernel_rfl)) (fun _ _ _ h => h) (Or.inr ⟨by rfl, rfl⟩) ?_ ?_; rotate_left; (simp only [zps]; rfl)
     refine pz_ 14 49 undef ?_ (bz 25 32767) rfl rfl (za3 HT_.out (by kernel_rfl)) (fun _ _ _ h => h) (Or.inr ⟨by rfl, rfl⟩) ?_ ?_; rotate_left; (simp only [zps]; rfl)
     refine pz_ 15 50 undef ?_ (bz 25 65535) rfl rfl (za3 HT_.out (by kernel_rfl)) (fun _ _ _ h => h) (Or.inr ⟨by rfl, rfl⟩) ?_ ?_; rotate_left; (simp only [zps]; rfl)
     refine pz_ 16 51 undef ?_ (bz 25 131071) rfl rfl (za3 HT_.out (by kernel_rfl)) (fun _ _ _ h => h) (Or.inr ⟨by rfl, rfl⟩) ?_ ?_; rotate_left; (simp only [zps]; rfl)
     refine pz_ 17 52 undef ?_ (bz 25 262143) rfl rfl (za3 HT_.out (by kernel_rfl)) (fun _ _ _ h => h) (Or.inr ⟨by rfl, rfl⟩) ?_ ?_; rotate_left; (simp only [zps]; rfl)
     refine pz_ 18 53 undef ?_ (bz 25 524287) rfl rfl (za3 HT_.out (by kernel_rfl)) (fun _ _ _ h => h) (Or.inr ⟨by rfl, rfl⟩) ?_ ?_; rotate_left; (simp only [zps]; rfl)
     refine pz_ 19 54 undef ?_ (bz 25 1048575) rfl rfl (za3 HT_.out (by kernel_rfl)) (fun _ _ _ h => h) (Or.inr ⟨by rfl, rfl⟩) ?_ ?_; rotate_left; (simp only [zps]; rfl)
     refine pz_ 20 55 undef ?_ (bz 25 2097151) rfl rfl (za3 HT_.out (by kernel_rfl)) (fun _ _ _ h => h) (Or.inr ⟨by rfl, rfl⟩) ?_ ?_; rotate_left; (simp only [zps]; rfl)
     refine pz_ 21 56 undef ?_ (bz 25 4194303) rfl rfl (za3 HT_.out (by kernel_rfl)) (fun _ _ _ h => h) (Or.inr ⟨by rfl, rfl⟩) ?_ ?_; rotate_left; (simp only [zps]; rfl)
     refine pz_ 22 57 undef ?_ (bz 25 8388607) rfl rfl (za3 HT_.out (by kernel_rfl)) (fun _ _ _ h => h) (Or.inr ⟨by rfl, rfl⟩) ?_ ?_; rotate_left; (simp only [zps]; rfl)
     refine pz_ 23 58 ?_ ?_ (bz 25 16777215) rfl rfl (za3 HT_.out (by kernel_rfl)) (fun _ _ _ h => h) (Or.inl ⟨by rfl, ?_⟩) ?_ ?_; rotate_left 2; (intro w'; go_simp; with_reducible rfl); (simp only [zps]; rfl)
     refine pz_ 24 34 ?_ ?_ (bz 25 33554431) rfl rfl (za3 HT_.out (by kernel_rfl)) (fun _ _ _ h => h) (Or.inl ⟨by rfl, ?_⟩) ?_ ?_; rotate_left 2; (intro w'; go_simp; with_reducible rfl); (simp only [zps]; rfl)
     refine done_ (done_of HT_.out (by kernel_rfl)) ?_
     try go_wp2
     go_ret2
     exact ⟨_, by first | rfl | (simp [zao, zan] <;> rfl) | (simp [*, zao, zan] <;> rfl), by first | exact Kd.R_nil _ _ _ _ _ | exact Kd.N_nil _ _ _ _ _ | exact Kd.V_nil _ _ _ _ _ | exact Kd.Q_nil _ _ _ _ _ | exact Kd.S_nil _ _ _ _ _, by repeat with_reducible first | exact HB.out | apply zac | apply zaa | apply zad | refine zag ?_ GE149.out⟩
 ·replace c5 := Bool.eq_false_iff.mpr c5
  subst c5
  have H1 : (some (([] : List Int), false)) = some (r1, r2) := by rw [if_neg (show ¬ (false = true) by decide)] at H; exact H
  clear H
  have H := H1
  clear H1
  simp only [Option.some.injEq, Prod.mk.injEq] at H
  obtain ⟨rfl, rfl⟩ := H
  go_enter Tryd.func34, Tryd.ntmps34
  go_wp2_with (first | ((with_reducible refine za6 (f := 45) rfl ?_); refine zbo (some 13) rfl rfl Tryd.func45 (by kernel_rfl) rfl #[.int .i64 a0, .int .i64 a1] rfl (by (try simp only [List.map_toArray, List.map_cons, List.map_nil]); first | done | rfl | (simp only [List.length_drop, List.length_take]; rfl)) ?_; (with_reducible refine (zbl.calls a0 a1 t143 t144 t145 t146 t147 false _ A4.out).mono ?_); rintro e w57 ⟨rfl, hb⟩; refine ⟨_, rfl, ?_⟩; have n0_ := zab.mk (zal (by repeat with_reducible first | exact HB.out | apply zac | apply zaa | apply zad) hb); clear HB; have HB := n0_; clear n0_; (try clear hb); (try clear hb2); (try clear hk); (try clear hi)) | ((with_reducible refine za2 (N := 8) rfl ?_); refine zay ?hg (N := 8) ?hd (cs := #[.int .i64 0, .int .i64 0, .string (⟨#[]⟩ : ByteArray), .int .i64 0, .bool false]) (t := 78) ?hr ?_; (case hd => rfl); (case hg => rfl); (case hr => first | (go_simp; done) | (go_simp; rfl)); intro gb149 hg w58 hbox hb; have n0_ := zab.mk (zal (by repeat with_reducible first | exact HB.out | apply zac | apply zaa | apply zad) hb); have n1_ := zab.mk (hbox); have n2_ := zab.mk ((by rw [hg]; exact (zaq (by repeat with_reducible first | exact HB.out | apply zac | apply zaa | apply zad)) : w.heap.size ≤ gb149)); have n3_ := n2_; clear HB; have HB := n0_; have BK149 := n1_; have GW149 := n2_; have GE149 := n3_; clear n0_ n1_ n2_ n3_; clear hb hbox hg; obtain ⟨d59_0, d59_1, d59_2, d59_3, d59_4⟩ := cq5 BK149.out; obtain ⟨e59_0, e59_1, e59_2, e59_3, e59_4⟩ := fq5 BK149.out))
  go_ret2
  exact ⟨_, by first | rfl | (simp [zao, zan] <;> rfl) | (simp [*, zao, zan] <;> rfl), by first | exact Kd.R_nil _ _ _ _ _ | exact Kd.N_nil _ _ _ _ _ | exact Kd.V_nil _ _ _ _ _ | exact Kd.Q_nil _ _ _ _ _ | exact Kd.S_nil _ _ _ _ _, by repeat with_reducible first | exact HB.out | apply zac | apply zaa | apply zad | refine zag ?_ GE149.out⟩
end Go.Proofs.YtikmmigfdchcpaaDoor.PP
