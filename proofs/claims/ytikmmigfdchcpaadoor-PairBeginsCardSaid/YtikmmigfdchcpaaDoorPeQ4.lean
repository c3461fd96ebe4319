/-
  Proved: a part of the proof of the claim's statement (text Q4 of it).
  Conditions: none of ours.
-/
import Derived.Test.YtikmmigfdchcpaaDoorPeQ0
import Derived.Test.YtikmmigfdchcpaaDoorPeQ1
import Derived.Test.YtikmmigfdchcpaaDoorPeQ3
namespace Go.Proofs.YtikmmigfdchcpaaDoor.PP
open Go.RowKit Go.Proofs.YtikmmigfdchcpaaDoorW.PrintWords Go.Proofs.YtikmmigfdchcpaaDoorW.PrintLast Go.Proofs.YtikmmigfdchcpaaDoorW.PrintMore
set_option linter.unusedVariables false
set_option linter.unusedSimpArgs false
attribute [local go_sem high] eqA38
def Glob (w : World) : Prop :=
 w.cell? ⟨0, 0, none⟩ = some (.int .i64 3) ∧ w.cell? ⟨0, 1, none⟩ = some (.int .i64 1) ∧ w.cell? ⟨0, 2, none⟩ = some (.string ⟨#[]⟩) ∧
 w.cell? ⟨1, 0, none⟩ = some (.int .i64 3) ∧ w.cell? ⟨1, 1, none⟩ = some (.int .i64 0) ∧ w.cell? ⟨1, 2, none⟩ = some (.string ⟨#[]⟩)
theorem za7 {w w' : World} (h : Glob w) (hb : Below w.heap.size w w') : Glob w' := by
 obtain ⟨y0, y1, y2, z0, z1, z2⟩ := h
 exact ⟨zaf hb y0, zaf hb y1, zaf hb y2, zaf hb z0, zaf hb z1, zaf hb z2⟩
def zbj.f (k : Nat) (a0_0 : Int) (a0_1 : Int) (a0_2 : ByteArray) : Option (Bool) := if a0_0 = 0 then (some (a0_0 == 0 && (a0_1 == 0 && (a0_2.toList == ([] : List UInt8))))) else (if a0_0 = 1 then (some (a0_2.toList == ([] : List UInt8))) else (if a0_0 = 2 then (if a0_1 = 0 then ((zau.f k a0_2).bind fun t => (some t)) else (some false)) else (if (a0_0 == 3 && (a0_1 == 1 && (a0_2.toList == ([] : List UInt8)))) = true then (some true) else (some (a0_0 == 3 && (a0_1 == 0 && (a0_2.toList == ([] : List UInt8))))))))
set_option maxHeartbeats 8000000 in
set_option maxRecDepth 100000 in
theorem zbj.calls (k : Nat) (a0_0 : Int) (a0_1 : Int) (a0_2 : ByteArray) (r : Bool) (w : World) (hG : Glob w) (h : zbj.f k a0_0 a0_1 a0_2 = some r) :
  Calls Tryd.prog 44 #[.agg #[.int .i64 a0_0, .int .i64 a0_1, .string a0_2]] w fun e w' => e = .returned (.bool r) ∧ Below w.heap.size w w' := by
 have hu38 := Tryd.underlying38
 have HB := zab.mk (Below.refl w.heap.size w)
 have HG := zab.mk hG
 clear hG
 have H := h
 clear h
 unfold zbj.f at H
 by_cases c0 : a0_0 = 0
 ·rw [if_pos c0] at H
  have c0b : (a0_0 == 0) = true := beq_iff_eq.mpr c0
  clear c0
  obtain rfl := Option.some.inj H
  go_enter Tryd.func44, Tryd.ntmps44
  go_wp2_with (first | ((with_reducible refine za2 (N := 1) rfl ?_); refine zay ?hg (N := 1) ?hd (cs := #[.int .i64 a0_0, .int .i64 a0_1, .string a0_2]) (t := 38) ?hr ?_; (case hd => rfl); (case hg => rfl); (case hr => first | (go_simp; done) | (go_simp; rfl)); intro gb hg w1 hbox hb; have n0_ := zab.mk (zal (by repeat with_reducible first | exact HB.out | apply zac | apply zaa | apply zad) hb); have n1_ := zab.mk (hbox); have n2_ := zab.mk ((by rw [hg]; exact (zaq (by repeat with_reducible first | exact HB.out | apply zac | apply zaa | apply zad)) : w.heap.size ≤ gb)); clear HB; have HB := n0_; have BK := n1_; have GE := n2_; clear n0_ n1_ n2_; clear hb hbox hg; have hcz0 : w1.cell? ⟨gb, 0, none⟩ = some (.int .i64 a0_0) := (zae BK.out 0).trans rfl; have hcz1 : w1.cell? ⟨gb, 1, none⟩ = some (.int .i64 a0_1) := (zae BK.out 1).trans rfl; have hcz2 : w1.cell? ⟨gb, 2, none⟩ = some (.string a0_2) := (zae BK.out 2).trans rfl))
  go_ret
  exact ⟨by first | rfl | (simp [*] <;> rfl), by repeat with_reducible first | exact HB.out | apply zac | apply zaa | apply zad | refine zag ?_ GE.out⟩
 ·rw [if_neg c0] at H
  have c0b : (a0_0 == 0) = false := beq_eq_false_iff_ne.mpr c0
  by_cases c1 : a0_0 = 1
  ·rw [if_pos c1] at H
   have c1b : (a0_0 == 1) = true := beq_iff_eq.mpr c1
   clear c1
   obtain rfl := Option.some.inj H
   go_enter Tryd.func44, Tryd.ntmps44
   go_wp2_with (first | ((with_reducible refine za2 (N := 1) rfl ?_); refine zay ?hg (N := 1) ?hd (cs := #[.int .i64 a0_0, .int .i64 a0_1, .string a0_2]) (t := 38) ?hr ?_; (case hd => rfl); (case hg => rfl); (case hr => first | (go_simp; done) | (go_simp; rfl)); intro gb hg w1 hbox hb; have n0_ := zab.mk (zal (by repeat with_reducible first | exact HB.out | apply zac | apply zaa | apply zad) hb); have n1_ := zab.mk (hbox); have n2_ := zab.mk ((by rw [hg]; exact (zaq (by repeat with_reducible first | exact HB.out | apply zac | apply zaa | apply zad)) : w.heap.size ≤ gb)); clear HB; have HB := n0_; have BK := n1_; have GE := n2_; clear n0_ n1_ n2_; clear hb hbox hg; have hcz0 : w1.cell? ⟨gb, 0, none⟩ = some (.int .i64 a0_0) := (zae BK.out 0).trans rfl; have hcz1 : w1.cell? ⟨gb, 1, none⟩ = some (.int .i64 a0_1) := (zae BK.out 1).trans rfl; have hcz2 : w1.cell? ⟨gb, 2, none⟩ = some (.string a0_2) := (zae BK.out 2).trans rfl))
   go_ret
   exact ⟨by first | rfl | (simp [*] <;> rfl), by repeat with_reducible first | exact HB.out | apply zac | apply zaa | apply zad | refine zag ?_ GE.out⟩
  ·rw [if_neg c1] at H
   have c1b : (a0_0 == 1) = false := beq_eq_false_iff_ne.mpr c1
   by_cases c2 : a0_0 = 2
   ·rw [if_pos c2] at H
    have c2b : (a0_0 == 2) = true := beq_iff_eq.mpr c2
    clear c2
    by_cases c3 : a0_1 = 0
    ·rw [if_pos c3] at H
     have c3b : (a0_1 == 0) = true := beq_iff_eq.mpr c3
     clear c3
     replace H := Option.bind_eq_some_iff.mp H
     obtain ⟨t, A0, H⟩ := H
     have A := zab.mk A0
     clear A0
     obtain rfl := Option.some.inj H
     go_enter Tryd.func44, Tryd.ntmps44
     go_wp2_with (first | ((with_reducible refine za2 (N := 1) rfl ?_); refine zay ?hg (N := 1) ?hd (cs := #[.int .i64 a0_0, .int .i64 a0_1, .string a0_2]) (t := 38) ?hr ?_; (case hd => rfl); (case hg => rfl); (case hr => first | (go_simp; done) | (go_simp; rfl)); intro gb hg w1 hbox hb; have n0_ := zab.mk (zal (by repeat with_reducible first | exact HB.out | apply zac | apply zaa | apply zad) hb); have n1_ := zab.mk (hbox); have n2_ := zab.mk ((by rw [hg]; exact (zaq (by repeat with_reducible first | exact HB.out | apply zac | apply zaa | apply zad)) : w.heap.size ≤ gb)); clear HB; have HB := n0_; have BK := n1_; have GE := n2_; clear n0_ n1_ n2_; clear hb hbox hg; have hcz0 : w1.cell? ⟨gb, 0, none⟩ = some (.int .i64 a0_0) := (zae BK.out 0).trans rfl; have hcz1 : w1.cell? ⟨gb, 1, none⟩ = some (.int .i64 a0_1) := (zae BK.out 1).trans rfl; have hcz2 : w1.cell? ⟨gb, 2, none⟩ = some (.string a0_2) := (zae BK.out 2).trans rfl) | (go_at_call 52; (with_reducible refine (zau.calls k a0_2 t _ A.out).mono ?_); rintro e w' ⟨rfl, ⟨nd, rfl⟩⟩))
     go_ret
     exact ⟨by first | rfl | (simp [*] <;> rfl), by repeat with_reducible first | exact HB.out | apply zac | apply zaa | apply zad | refine zag ?_ GE.out⟩
    ·rw [if_neg c3] at H
     have c3b : (a0_1 == 0) = false := beq_eq_false_iff_ne.mpr c3
     obtain rfl := Option.some.inj H
     go_enter Tryd.func44, Tryd.ntmps44
     go_wp2_with (first | ((with_reducible refine za2 (N := 1) rfl ?_); refine zay ?hg (N := 1) ?hd (cs := #[.int .i64 a0_0, .int .i64 a0_1, .string a0_2]) (t := 38) ?hr ?_; (case hd => rfl); (case hg => rfl); (case hr => first | (go_simp; done) | (go_simp; rfl)); intro gb hg w1 hbox hb; have n0_ := zab.mk (zal (by repeat with_reducible first | exact HB.out | apply zac | apply zaa | apply zad) hb); have n1_ := zab.mk (hbox); have n2_ := zab.mk ((by rw [hg]; exact (zaq (by repeat with_reducible first | exact HB.out | apply zac | apply zaa | apply zad)) : w.heap.size ≤ gb)); clear HB; have HB := n0_; have BK := n1_; have GE := n2_; clear n0_ n1_ n2_; clear hb hbox hg; have hcz0 : w1.cell? ⟨gb, 0, none⟩ = some (.int .i64 a0_0) := (zae BK.out 0).trans rfl; have hcz1 : w1.cell? ⟨gb, 1, none⟩ = some (.int .i64 a0_1) := (zae BK.out 1).trans rfl; have hcz2 : w1.cell? ⟨gb, 2, none⟩ = some (.string a0_2) := (zae BK.out 2).trans rfl))
     go_ret
     exact ⟨by first | rfl | (simp [*] <;> rfl), by repeat with_reducible first | exact HB.out | apply zac | apply zaa | apply zad | refine zag ?_ GE.out⟩
   ·rw [if_neg c2] at H
    have c2b : (a0_0 == 2) = false := beq_eq_false_iff_ne.mpr c2
    by_cases q : (a0_0 == 3 && (a0_1 == 1 && (a0_2.toList == ([] : List UInt8)))) = true
    ·rw [if_pos q] at H
     have q1 : (a0_0 == 3 && (a0_1 == 1 && a0_2.toList.isEmpty)) = true := by rw [← q]; congr 2; cases a0_2.toList <;> rfl
     obtain rfl := Option.some.inj H
     go_enter Tryd.func44, Tryd.ntmps44
     go_wp2_with (first | ((with_reducible refine za2 (N := 1) rfl ?_); refine zay ?hg (N := 1) ?hd (cs := #[.int .i64 a0_0, .int .i64 a0_1, .string a0_2]) (t := 38) ?hr ?_; (case hd => rfl); (case hg => rfl); (case hr => first | (go_simp; done) | (go_simp; rfl)); intro gb hg w1 hbox hb; have n0_ := zab.mk (zal (by repeat with_reducible first | exact HB.out | apply zac | apply zaa | apply zad) hb); have n1_ := zab.mk (hbox); have n2_ := zab.mk ((by rw [hg]; exact (zaq (by repeat with_reducible first | exact HB.out | apply zac | apply zaa | apply zad)) : w.heap.size ≤ gb)); clear HB; have HB := n0_; have BK := n1_; have GE := n2_; clear n0_ n1_ n2_; clear hb hbox hg; have hcz0 : w1.cell? ⟨gb, 0, none⟩ = some (.int .i64 a0_0) := (zae BK.out 0).trans rfl; have hcz1 : w1.cell? ⟨gb, 1, none⟩ = some (.int .i64 a0_1) := (zae BK.out 1).trans rfl; have hcz2 : w1.cell? ⟨gb, 2, none⟩ = some (.string a0_2) := (zae BK.out 2).trans rfl; have hG0 := za7 HG.out HB.out; obtain ⟨y0, y1, y2, z0, z1, z2⟩ := hG0))
     go_ret
     exact ⟨by first | rfl | (simp [*] <;> rfl), by repeat with_reducible first | exact HB.out | apply zac | apply zaa | apply zad | refine zag ?_ GE.out⟩
    ·rw [if_neg q] at H
     replace q := Bool.eq_false_iff.mpr q
     have q1 : (a0_0 == 3 && (a0_1 == 1 && a0_2.toList.isEmpty)) = false := by rw [← q]; congr 2; cases a0_2.toList <;> rfl
     obtain rfl := Option.some.inj H
     go_enter Tryd.func44, Tryd.ntmps44
     go_wp2_with (first | ((with_reducible refine za2 (N := 1) rfl ?_); refine zay ?hg (N := 1) ?hd (cs := #[.int .i64 a0_0, .int .i64 a0_1, .string a0_2]) (t := 38) ?hr ?_; (case hd => rfl); (case hg => rfl); (case hr => first | (go_simp; done) | (go_simp; rfl)); intro gb hg w1 hbox hb; have n0_ := zab.mk (zal (by repeat with_reducible first | exact HB.out | apply zac | apply zaa | apply zad) hb); have n1_ := zab.mk (hbox); have n2_ := zab.mk ((by rw [hg]; exact (zaq (by repeat with_reducible first | exact HB.out | apply zac | apply zaa | apply zad)) : w.heap.size ≤ gb)); clear HB; have HB := n0_; have BK := n1_; have GE := n2_; clear n0_ n1_ n2_; clear hb hbox hg; have hcz0 : w1.cell? ⟨gb, 0, none⟩ = some (.int .i64 a0_0) := (zae BK.out 0).trans rfl; have hcz1 : w1.cell? ⟨gb, 1, none⟩ = some (.int .i64 a0_1) := (zae BK.out 1).trans rfl; have hcz2 : w1.cell? ⟨gb, 2, none⟩ = some (.string a0_2) := (zae BK.out 2).trans rfl; have hG0 := za7 HG.out HB.out; obtain ⟨y0, y1, y2, z0, z1, z2⟩ := hG0))
     go_ret
     exact ⟨by first | rfl | (simp [*] <;> rfl), by repeat with_reducible first | exact HB.out | apply zac | apply zaa | apply zad | refine zag ?_ GE.out⟩
end Go.Proofs.YtikmmigfdchcpaaDoor.PP
