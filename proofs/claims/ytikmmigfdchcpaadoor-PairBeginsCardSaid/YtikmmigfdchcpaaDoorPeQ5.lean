/-
  Proved: a part of the proof of the claim's statement (text Q5 of it).
  Conditions: none of ours.
-/
import Derived.Test.YtikmmigfdchcpaaDoorPeQ0
import Derived.Test.YtikmmigfdchcpaaDoorPeQ4
namespace Go.Proofs.YtikmmigfdchcpaaDoor.PP
open Go.RowKit Go.Proofs.YtikmmigfdchcpaaDoorW.PrintWords Go.Proofs.YtikmmigfdchcpaaDoorW.PrintLast Go.Proofs.YtikmmigfdchcpaaDoorW.PrintMore
set_option linter.unusedVariables false
set_option linter.unusedSimpArgs false
def zas.j0 : Nat → Int → Int → Bool → Int → Int → ByteArray → Option (Bool)
 | 0, _, _, _, _, _, _ => none
 | k + 1, x0, x8, x9, x102000, x102001, x102002 => if x9 = true then (if x102000 = 1 then (some true) else (some (x102000 == 2))) else (if x8 = 5 then (some (x102000 == 1)) else (if x0 = 6 then (some (x102000 == 3)) else (some false)))
def zas.f (k : Nat) (a0 : Int) (a1_0 : Int) (a1_1 : Int) (a1_2 : ByteArray) : Option (Bool) := (zbj.f k a1_0 a1_1 a1_2).bind fun t102 => (if t102 = true then (if a0 = 0 then (zas.j0 k a0 a0 (a0 == 0) a1_0 a1_1 a1_2) else (if a0 = 1 then (zas.j0 k a0 a0 (a0 == 1) a1_0 a1_1 a1_2) else (if a0 = 2 then (zas.j0 k a0 a0 (a0 == 2) a1_0 a1_1 a1_2) else (if a0 = 3 then (zas.j0 k a0 a0 (a0 == 3) a1_0 a1_1 a1_2) else (zas.j0 k a0 a0 (a0 == 4) a1_0 a1_1 a1_2))))) else (some false))
set_option maxHeartbeats 8000000 in
set_option maxRecDepth 100000 in
theorem zas.calls (k : Nat) (a0 : Int) (a1_0 : Int) (a1_1 : Int) (a1_2 : ByteArray) (r : Bool) (w : World) (hG : Glob w) (h : zas.f k a0 a1_0 a1_1 a1_2 = some r) :
  Calls Tryd.prog 40 #[.int .i64 a0, .agg #[.int .i64 a1_0, .int .i64 a1_1, .string a1_2]] w fun e w' => e = .returned (.bool r) ∧ Below w.heap.size w w' := by
 have hu38 := Tryd.underlying38
 have HB := zab.mk (Below.refl w.heap.size w)
 have HG := zab.mk hG
 clear hG
 have H : ((zbj.f k a1_0 a1_1 a1_2).bind fun t102 => (if t102 = true then (if a0 = 0 then (zas.j0 k a0 a0 (a0 == 0) a1_0 a1_1 a1_2) else (if a0 = 1 then (zas.j0 k a0 a0 (a0 == 1) a1_0 a1_1 a1_2) else (if a0 = 2 then (zas.j0 k a0 a0 (a0 == 2) a1_0 a1_1 a1_2) else (if a0 = 3 then (zas.j0 k a0 a0 (a0 == 3) a1_0 a1_1 a1_2) else (zas.j0 k a0 a0 (a0 == 4) a1_0 a1_1 a1_2))))) else (some false))) = some r := h
 clear h
 replace H := Option.bind_eq_some_iff.mp H
 obtain ⟨t102, A30, H⟩ := H
 replace H : (if t102 = true then (if a0 = 0 then (zas.j0 k a0 a0 (a0 == 0) a1_0 a1_1 a1_2) else (if a0 = 1 then (zas.j0 k a0 a0 (a0 == 1) a1_0 a1_1 a1_2) else (if a0 = 2 then (zas.j0 k a0 a0 (a0 == 2) a1_0 a1_1 a1_2) else (if a0 = 3 then (zas.j0 k a0 a0 (a0 == 3) a1_0 a1_1 a1_2) else (zas.j0 k a0 a0 (a0 == 4) a1_0 a1_1 a1_2))))) else (some false)) = some r := H
 have A3 := zab.mk A30
 clear A30
 by_cases c4 : t102 = true
 ·subst c4
  have H1 : (if a0 = 0 then (zas.j0 k a0 a0 (a0 == 0) a1_0 a1_1 a1_2) else (if a0 = 1 then (zas.j0 k a0 a0 (a0 == 1) a1_0 a1_1 a1_2) else (if a0 = 2 then (zas.j0 k a0 a0 (a0 == 2) a1_0 a1_1 a1_2) else (if a0 = 3 then (zas.j0 k a0 a0 (a0 == 3) a1_0 a1_1 a1_2) else (zas.j0 k a0 a0 (a0 == 4) a1_0 a1_1 a1_2))))) = some r := by rw [if_pos rfl] at H; exact H
  clear H
  have H := H1
  clear H1
  have HC5 := zab.mk H
  clear H
  go_enter Tryd.func40, Tryd.ntmps40
  go_upto_if 9 with (first | ((with_reducible refine za2 (N := 3) rfl ?_); refine zay ?hg (N := 3) ?hd (cs := #[.int .i64 a1_0, .int .i64 a1_1, .string a1_2]) (t := 38) ?hr ?_; (case hd => rfl); (case hg => rfl); (case hr => first | (go_simp; done) | (go_simp; rfl)); intro gb101 hg w6 hbox hb; have n0_ := zab.mk (zal (by repeat with_reducible first | exact HB.out | apply zac | apply zaa | apply zad) hb); have n1_ := zab.mk (hbox); have n2_ := zab.mk ((by rw [hg]; exact (zaq (by repeat with_reducible first | exact HB.out | apply zac | apply zaa | apply zad)) : w.heap.size ≤ gb101)); have n3_ := n2_; clear HB; have HB := n0_; have BK101 := n1_; have GW101 := n2_; have GE101 := n3_; clear n0_ n1_ n2_ n3_; clear hb hbox hg; obtain ⟨d7_0, d7_1, d7_2⟩ := cq3 BK101.out; obtain ⟨e7_0, e7_1, e7_2⟩ := fq3 BK101.out) | ((with_reducible refine za6 (f := 44) rfl ?_); refine zbo (some 6) rfl rfl Tryd.func44 (by kernel_rfl) rfl #[.agg #[.int .i64 a1_0, .int .i64 a1_1, .string a1_2]] rfl (by (try simp only [List.map_toArray, List.map_cons, List.map_nil]); first | done | rfl | (simp only [List.length_drop, List.length_take]; rfl)) ?_; (with_reducible refine (zbj.calls k a1_0 a1_1 a1_2 true _ ?side0 A3.out).mono ?_); (case side0 => exact za7 HG.out (by repeat with_reducible first | exact HB.out | apply zac | apply zaa | apply zad | refine zag ?_ GE101.out)); rintro e w8 ⟨rfl, hb⟩; refine ⟨_, rfl, ?_⟩; have n0_ := zab.mk (zaw (g := gb101) (o := .cells #[.int .i64 a1_0, .int .i64 a1_1, .string a1_2] 38 (0, 0)) (by (with_reducible repeat (first | refine zaj ?_ _ | refine zam ?_ | refine zak ?_ _)); exact BK101.out) hb); have n1_ := zab.mk (zal (by repeat with_reducible first | exact HB.out | apply zac | apply zaa | apply zad | refine zag ?_ GE101.out) hb); clear BK101; clear HB; have BK101 := n0_; have HB := n1_; clear n0_ n1_; (try clear hb); (try clear hb2); (try clear hk); (try clear hi)))
  (try simp only [Act.put, List.setIfInBounds_toArray, List.set_cons_zero, List.set_cons_succ])
  go_cut [9] (fun v9 wc => ∃ (kq : Nat) (x9_4 : Bool), v9 = .bool x9_4 ∧ zab (zas.j0 kq a0 a0 x9_4 a1_0 a1_1 a1_2 = some r) ∧ zab (kq ≤ k) ∧ zab (wc.heap[gb101]? = some (.cells #[.int .i64 a1_0, .int .i64 a1_1, .string a1_2] 38 (0, 0))) ∧ zab (Below w.heap.size w wc))
  case first =>
   have H := HC5.out
   clear HC5
   by_cases c9 : a0 = 0
   ·rw [if_pos c9] at H
    have c9b0 : (a0 == 0) = true := beq_iff_eq.mpr c9
    have c9b1 : (a0 != 0) = false := bne_eq_false_iff_eq.mpr c9
    clear c9
    (first | rw [c9b0] | (simp only [i64_w]; rw [c9b0]) | skip)
    have H' := zab.mk H
    clear H
    go_wp2
    go_meet
    case rel => exact ⟨_, ((a0 == 0)), (by first | rfl | (simp; done) | (simp [*]; done)), H', ⟨by first | omega | exact Nat.le_refl _⟩, ⟨by (with_reducible repeat (first | refine zaj ?_ _ | refine zam ?_ | refine zak ?_ _)); exact BK101.out⟩, ⟨by repeat with_reducible first | exact HB.out | apply zac | apply zaa | apply zad | refine zag ?_ GE101.out⟩⟩
   ·rw [if_neg c9] at H
    have c9b0 : (a0 == 0) = false := beq_eq_false_iff_ne.mpr c9
    have c9b1 : (a0 != 0) = true := bne_iff_ne.mpr c9
    (first | rw [c9b0] | (simp only [i64_w]; rw [c9b0]) | skip)
    by_cases c10 : a0 = 1
    ·rw [if_pos c10] at H
     have c10b0 : (a0 == 1) = true := beq_iff_eq.mpr c10
     have c10b1 : (a0 != 1) = false := bne_eq_false_iff_eq.mpr c10
     clear c10
     have H' := zab.mk H
     clear H
     go_wp2
     go_meet
     case rel => exact ⟨_, ((a0 == 1)), (by first | rfl | (simp; done) | (simp [*]; done)), H', ⟨by first | omega | exact Nat.le_refl _⟩, ⟨by (with_reducible repeat (first | refine zaj ?_ _ | refine zam ?_ | refine zak ?_ _)); exact BK101.out⟩, ⟨by repeat with_reducible first | exact HB.out | apply zac | apply zaa | apply zad | refine zag ?_ GE101.out⟩⟩
    ·rw [if_neg c10] at H
     have c10b0 : (a0 == 1) = false := beq_eq_false_iff_ne.mpr c10
     have c10b1 : (a0 != 1) = true := bne_iff_ne.mpr c10
     by_cases c11 : a0 = 2
     ·rw [if_pos c11] at H
      have c11b0 : (a0 == 2) = true := beq_iff_eq.mpr c11
      have c11b1 : (a0 != 2) = false := bne_eq_false_iff_eq.mpr c11
      clear c11
      have H' := zab.mk H
      clear H
      go_wp2
      go_meet
      case rel => exact ⟨_, ((a0 == 2)), (by first | rfl | (simp; done) | (simp [*]; done)), H', ⟨by first | omega | exact Nat.le_refl _⟩, ⟨by (with_reducible repeat (first | refine zaj ?_ _ | refine zam ?_ | refine zak ?_ _)); exact BK101.out⟩, ⟨by repeat with_reducible first | exact HB.out | apply zac | apply zaa | apply zad | refine zag ?_ GE101.out⟩⟩
     ·rw [if_neg c11] at H
      have c11b0 : (a0 == 2) = false := beq_eq_false_iff_ne.mpr c11
      have c11b1 : (a0 != 2) = true := bne_iff_ne.mpr c11
      by_cases c12 : a0 = 3
      ·rw [if_pos c12] at H
       have c12b0 : (a0 == 3) = true := beq_iff_eq.mpr c12
       have c12b1 : (a0 != 3) = false := bne_eq_false_iff_eq.mpr c12
       clear c12
       have H' := zab.mk H
       clear H
       go_wp2
       go_meet
       case rel => exact ⟨_, ((a0 == 3)), (by first | rfl | (simp; done) | (simp [*]; done)), H', ⟨by first | omega | exact Nat.le_refl _⟩, ⟨by (with_reducible repeat (first | refine zaj ?_ _ | refine zam ?_ | refine zak ?_ _)); exact BK101.out⟩, ⟨by repeat with_reducible first | exact HB.out | apply zac | apply zaa | apply zad | refine zag ?_ GE101.out⟩⟩
      ·rw [if_neg c12] at H
       have c12b0 : (a0 == 3) = false := beq_eq_false_iff_ne.mpr c12
       have c12b1 : (a0 != 3) = true := bne_iff_ne.mpr c12
       have H' := zab.mk H
       clear H
       go_wp2
       go_meet
       case rel => exact ⟨_, ((a0 == 4)), (by first | rfl | (simp; done) | (simp [*]; done)), H', ⟨by first | omega | exact Nat.le_refl _⟩, ⟨by (with_reducible repeat (first | refine zaj ?_ _ | refine zam ?_ | refine zak ?_ _)); exact BK101.out⟩, ⟨by repeat with_reducible first | exact HB.out | apply zac | apply zaa | apply zad | refine zag ?_ GE101.out⟩⟩
  case rest =>
   clear HC5
   try clear c1
   try clear p2
   try clear c4
   try clear c9
   try clear c9b0
   try clear c9b1
   try clear c10
   try clear c10b0
   try clear c10b1
   try clear c11
   try clear c11b0
   try clear c11b1
   try clear c12
   try clear c12b0
   try clear c12b1
   try clear d7_0 d7_1 d7_2
   try clear e7_0 e7_1 e7_2
   obtain ⟨kq, x9_4, rfl, HA, HJ4, BK101, HB⟩ := hcut
   cases kq with
   | zero => exact absurd HA.out (by simp [zas.j0])
   | succ kj4 =>
    have H := HA.out
    clear HA
    simp only [zas.j0] at H
    by_cases c13 : x9_4 = true
    ·subst c13
     have H1 : (if a1_0 = 1 then (some true) else (some (a1_0 == 2))) = some r := by rw [if_pos rfl] at H; exact H
     clear H
     have H := H1
     clear H1
     by_cases c14 : a1_0 = 1
     ·rw [if_pos c14] at H
      have c14b0 : (a1_0 == 1) = true := beq_iff_eq.mpr c14
      have c14b1 : (a1_0 != 1) = false := bne_eq_false_iff_eq.mpr c14
      clear c14
      obtain rfl := Option.some.inj H
      obtain ⟨d15_0, d15_1, d15_2⟩ := cq3 BK101.out
      obtain ⟨e15_0, e15_1, e15_2⟩ := fq3 BK101.out
      go_wp2
      go_ret
      exact ⟨by first | rfl | (simp [zao, zan] <;> rfl) | (simp [*, zao, zan] <;> rfl), by repeat with_reducible first | exact HB.out | apply zac | apply zaa | apply zad | refine zag ?_ GE101.out⟩
     ·rw [if_neg c14] at H
      have c14b0 : (a1_0 == 1) = false := beq_eq_false_iff_ne.mpr c14
      have c14b1 : (a1_0 != 1) = true := bne_iff_ne.mpr c14
      obtain rfl := Option.some.inj H
      obtain ⟨d16_0, d16_1, d16_2⟩ := cq3 BK101.out
      obtain ⟨e16_0, e16_1, e16_2⟩ := fq3 BK101.out
      go_wp2
      go_ret
      exact ⟨by first | rfl | (simp [zao, zan] <;> rfl) | (simp [*, zao, zan] <;> rfl), by repeat with_reducible first | exact HB.out | apply zac | apply zaa | apply zad | refine zag ?_ GE101.out⟩
    ·replace c13 := Bool.eq_false_iff.mpr c13
     subst c13
     have H1 : (if a0 = 5 then (some (a1_0 == 1)) else (if a0 = 6 then (some (a1_0 == 3)) else (some false))) = some r := by rw [if_neg (show ¬ (false = true) by decide)] at H; exact H
     clear H
     have H := H1
     clear H1
     by_cases c17 : a0 = 5
     ·rw [if_pos c17] at H
      have c17b0 : (a0 == 5) = true := beq_iff_eq.mpr c17
      have c17b1 : (a0 != 5) = false := bne_eq_false_iff_eq.mpr c17
      clear c17
      obtain rfl := Option.some.inj H
      obtain ⟨d18_0, d18_1, d18_2⟩ := cq3 BK101.out
      obtain ⟨e18_0, e18_1, e18_2⟩ := fq3 BK101.out
      go_wp2
      go_ret
      exact ⟨by first | rfl | (simp [zao, zan] <;> rfl) | (simp [*, zao, zan] <;> rfl), by repeat with_reducible first | exact HB.out | apply zac | apply zaa | apply zad | refine zag ?_ GE101.out⟩
     ·rw [if_neg c17] at H
      have c17b0 : (a0 == 5) = false := beq_eq_false_iff_ne.mpr c17
      have c17b1 : (a0 != 5) = true := bne_iff_ne.mpr c17
      by_cases c19 : a0 = 6
      ·rw [if_pos c19] at H
       have c19b0 : (a0 == 6) = true := beq_iff_eq.mpr c19
       have c19b1 : (a0 != 6) = false := bne_eq_false_iff_eq.mpr c19
       clear c19
       obtain rfl := Option.some.inj H
       obtain ⟨d20_0, d20_1, d20_2⟩ := cq3 BK101.out
       obtain ⟨e20_0, e20_1, e20_2⟩ := fq3 BK101.out
       go_wp2
       go_ret
       exact ⟨by first | rfl | (simp [zao, zan] <;> rfl) | (simp [*, zao, zan] <;> rfl), by repeat with_reducible first | exact HB.out | apply zac | apply zaa | apply zad | refine zag ?_ GE101.out⟩
      ·rw [if_neg c19] at H
       have c19b0 : (a0 == 6) = false := beq_eq_false_iff_ne.mpr c19
       have c19b1 : (a0 != 6) = true := bne_iff_ne.mpr c19
       obtain rfl := Option.some.inj H
       go_wp2
       go_ret
       exact ⟨by first | rfl | (simp [zao, zan] <;> rfl) | (simp [*, zao, zan] <;> rfl), by repeat with_reducible first | exact HB.out | apply zac | apply zaa | apply zad | refine zag ?_ GE101.out⟩
 ·replace c4 := Bool.eq_false_iff.mpr c4
  subst c4
  have H1 : (some false) = some r := by rw [if_neg (show ¬ (false = true) by decide)] at H; exact H
  clear H
  have H := H1
  clear H1
  obtain rfl := Option.some.inj H
  go_enter Tryd.func40, Tryd.ntmps40
  go_wp2_with (first | ((with_reducible refine za2 (N := 3) rfl ?_); refine zay ?hg (N := 3) ?hd (cs := #[.int .i64 a1_0, .int .i64 a1_1, .string a1_2]) (t := 38) ?hr ?_; (case hd => rfl); (case hg => rfl); (case hr => first | (go_simp; done) | (go_simp; rfl)); intro gb101 hg w21 hbox hb; have n0_ := zab.mk (zal (by repeat with_reducible first | exact HB.out | apply zac | apply zaa | apply zad) hb); have n1_ := zab.mk (hbox); have n2_ := zab.mk ((by rw [hg]; exact (zaq (by repeat with_reducible first | exact HB.out | apply zac | apply zaa | apply zad)) : w.heap.size ≤ gb101)); have n3_ := n2_; clear HB; have HB := n0_; have BK101 := n1_; have GW101 := n2_; have GE101 := n3_; clear n0_ n1_ n2_ n3_; clear hb hbox hg; obtain ⟨d22_0, d22_1, d22_2⟩ := cq3 BK101.out; obtain ⟨e22_0, e22_1, e22_2⟩ := fq3 BK101.out) | ((with_reducible refine za6 (f := 44) rfl ?_); refine zbo (some 6) rfl rfl Tryd.func44 (by kernel_rfl) rfl #[.agg #[.int .i64 a1_0, .int .i64 a1_1, .string a1_2]] rfl (by (try simp only [List.map_toArray, List.map_cons, List.map_nil]); first | done | rfl | (simp only [List.length_drop, List.length_take]; rfl)) ?_; (with_reducible refine (zbj.calls k a1_0 a1_1 a1_2 false _ ?side0 A3.out).mono ?_); (case side0 => exact za7 HG.out (by repeat with_reducible first | exact HB.out | apply zac | apply zaa | apply zad | refine zag ?_ GE101.out)); rintro e w23 ⟨rfl, hb⟩; refine ⟨_, rfl, ?_⟩; have n0_ := zab.mk (zaw (g := gb101) (o := .cells #[.int .i64 a1_0, .int .i64 a1_1, .string a1_2] 38 (0, 0)) (by (with_reducible repeat (first | refine zaj ?_ _ | refine zam ?_ | refine zak ?_ _)); exact BK101.out) hb); have n1_ := zab.mk (zal (by repeat with_reducible first | exact HB.out | apply zac | apply zaa | apply zad | refine zag ?_ GE101.out) hb); clear BK101; clear HB; have BK101 := n0_; have HB := n1_; clear n0_ n1_; (try clear hb); (try clear hb2); (try clear hk); (try clear hi)))
  go_ret
  exact ⟨by first | rfl | (simp [zao, zan] <;> rfl) | (simp [*, zao, zan] <;> rfl), by repeat with_reducible first | exact HB.out | apply zac | apply zaa | apply zad | refine zag ?_ GE101.out⟩
end Go.Proofs.YtikmmigfdchcpaaDoor.PP
