/-
  Proved: a part of the proof of the claim's statement (text Q44 of it).
  Conditions: none of ours.
-/
import Derived.Test.YtikmmigfdchcpaaDoorPaQ0
import Derived.Test.YtikmmigfdchcpaaDoorPaQ1
import Derived.Test.YtikmmigfdchcpaaDoorPaQ37
import Derived.Test.YtikmmigfdchcpaaDoorPaQ38
import Derived.Test.YtikmmigfdchcpaaDoorPaQ43
namespace Go.Proofs.YtikmmigfdchcpaaDoor.PP
open Go.RowKit Go.Proofs.YtikmmigfdchcpaaDoorW.PrintWords Go.Proofs.YtikmmigfdchcpaaDoorW.PrintLast Go.Proofs.YtikmmigfdchcpaaDoorW.PrintMore
set_option linter.unusedVariables false
set_option linter.unusedSimpArgs false
attribute [local go_sem high] eqA38
/-! ### zan: function 29 -/
mutual
def zan.j0 : Nat → Bool → Int → Int → Int → ByteArray → Int → Int → Int → Int → ByteArray → Int → List (S38) → List (S38) → Bool → ByteArray → Int → Int → ByteArray → Option (Bool)
 | 0, _, _, _, _, _, _, _, _, _, _, _, _, _, _, _, _, _, _ => none
 | k + 1, x31, x250000, x250001, x250002, x250003, x250004, x250005, x250006, x250007, x250008, x250009, x250010, x250011, x250012, x250013, x251000, x251001, x251002 => if x31 = true then (some false) else (zan.l0 k 0 x250000 x250001 x250002 x250003 x250004 x250005 x250006 x250007 x250008 x250009 x250010 x250011 x250012 x250013 x251000 x251001 x251002)
def zan.l0 : Nat → Int → Int → Int → Int → ByteArray → Int → Int → Int → Int → ByteArray → Int → List (S38) → List (S38) → Bool → ByteArray → Int → Int → ByteArray → Option (Bool)
 | 0, _, _, _, _, _, _, _, _, _, _, _, _, _, _, _, _, _, _ => none
 | k + 1, x4, x250000, x250001, x250002, x250003, x250004, x250005, x250006, x250007, x250008, x250009, x250010, x250011, x250012, x250013, x251000, x251001, x251002 => if x4 < (x250013.size : Int) then (if 0 ≤ x4 then (if (bt x250013 x4) = 10 then (some false) else (zan.l0 k (wrap64 (x4 + 1)) x250000 x250001 x250002 x250003 x250004 x250005 x250006 x250007 x250008 x250009 x250010 x250011 x250012 x250013 x251000 x251001 x251002)) else (none)) else (if x250004 = 1 then ((zau.f k x250005 x250009 x250010).bind fun t252 => (if t252 = true then ((zbc.f k x250006 x250007 x250008).bind fun t253 => (if t253 = true then (some ((x250011.length : Int) == 0)) else (some false))) else (some false))) else (if x250004 < 2 then (zan.j2 k true x250000 x250001 x250002 x250003 x250004 x250005 x250006 x250007 x250008 x250009 x250010 x250011 x250012 x250013) else (if x250004 > 4 then (zan.j2 k true x250000 x250001 x250002 x250003 x250004 x250005 x250006 x250007 x250008 x250009 x250010 x250011 x250012 x250013) else (if x250005 = 0 then (if x250009 = 0 then (if (!(x250006 == x251000) || (!(x250007 == x251001) || (!(x250008.toList == x251002.toList)))) = true then (zan.j2 k true x250000 x250001 x250002 x250003 x250004 x250005 x250006 x250007 x250008 x250009 x250010 x250011 x250012 x250013) else (zan.j2 k (decide ((x250010.length : Int) > 0)) x250000 x250001 x250002 x250003 x250004 x250005 x250006 x250007 x250008 x250009 x250010 x250011 x250012 x250013)) else (zan.j2 k true x250000 x250001 x250002 x250003 x250004 x250005 x250006 x250007 x250008 x250009 x250010 x250011 x250012 x250013)) else (zan.j2 k true x250000 x250001 x250002 x250003 x250004 x250005 x250006 x250007 x250008 x250009 x250010 x250011 x250012 x250013)))))
def zan.j2 : Nat → Bool → Int → Int → Int → ByteArray → Int → Int → Int → Int → ByteArray → Int → List (S38) → List (S38) → Bool → ByteArray → Option (Bool)
 | 0, _, _, _, _, _, _, _, _, _, _, _, _, _, _, _ => none
 | k + 1, x94, x250000, x250001, x250002, x250003, x250004, x250005, x250006, x250007, x250008, x250009, x250010, x250011, x250012, x250013 => if x94 = true then (some false) else (zan.l1 k 0 x250000 x250001 x250002 x250003 x250004 x250005 x250006 x250007 x250008 x250009 x250010 x250011 x250012 x250013)
def zan.l1 : Nat → Int → Int → Int → Int → ByteArray → Int → Int → Int → Int → ByteArray → Int → List (S38) → List (S38) → Bool → ByteArray → Option (Bool)
 | 0, _, _, _, _, _, _, _, _, _, _, _, _, _, _, _ => none
 | k + 1, x5, x250000, x250001, x250002, x250003, x250004, x250005, x250006, x250007, x250008, x250009, x250010, x250011, x250012, x250013 => if x5 < (x250011.length : Int) then (if 0 ≤ x5 then ((zaw.f k ((zap x250011 x5).f0) ((zap x250011 x5).f1) ((zap x250011 x5).f2)).bind fun t255 => (if t255 = true then (zan.l1 k (wrap64 (x5 + 1)) x250000 x250001 x250002 x250003 x250004 x250005 x250006 x250007 x250008 x250009 x250010 x250011 x250012 x250013) else (some false))) else (none)) else (if x250004 = 2 then (some true) else (some ((x250011.length : Int) == 0)))
end
def zan.f (k : Nat) (a0_0 : Int) (a0_1 : Int) (a0_2 : Int) (a0_3 : ByteArray) (a0_4 : Int) (a0_5 : Int) (a0_6 : Int) (a0_7 : Int) (a0_8 : ByteArray) (a0_9 : Int) (l0_10 : List (S38)) (l0_11 : List (S38)) (a0_12 : Bool) (a0_13 : ByteArray) : Option (Bool) := if a0_0 < 0 then (zan.j0 k true a0_0 a0_1 a0_2 a0_3 a0_4 a0_5 a0_6 a0_7 a0_8 a0_9 l0_10 l0_11 a0_12 a0_13 0 0 (⟨#[]⟩ : ByteArray)) else ((zbc.f k a0_1 a0_2 a0_3).bind fun t251 => (if t251 = true then (if (a0_13.size : Int) > 100 then (zan.j0 k true a0_0 a0_1 a0_2 a0_3 a0_4 a0_5 a0_6 a0_7 a0_8 a0_9 l0_10 l0_11 a0_12 a0_13 0 0 (⟨#[]⟩ : ByteArray)) else (if a0_12 = true then (zan.j0 k false a0_0 a0_1 a0_2 a0_3 a0_4 a0_5 a0_6 a0_7 a0_8 a0_9 l0_10 l0_11 a0_12 a0_13 0 0 (⟨#[]⟩ : ByteArray)) else (zan.j0 k (a0_13.toList != ([] : List UInt8)) a0_0 a0_1 a0_2 a0_3 a0_4 a0_5 a0_6 a0_7 a0_8 a0_9 l0_10 l0_11 a0_12 a0_13 0 0 (⟨#[]⟩ : ByteArray)))) else (zan.j0 k true a0_0 a0_1 a0_2 a0_3 a0_4 a0_5 a0_6 a0_7 a0_8 a0_9 l0_10 l0_11 a0_12 a0_13 0 0 (⟨#[]⟩ : ByteArray))))
set_option maxHeartbeats 8000000 in
set_option maxRecDepth 100000 in
theorem zan.calls (k : Nat) (a0_0 : Int) (a0_1 : Int) (a0_2 : Int) (a0_3 : ByteArray) (a0_4 : Int) (a0_5 : Int) (a0_6 : Int) (a0_7 : Int) (a0_8 : ByteArray) (a0_9 : Int) (A0_10 : Option Addr) (c0_10 : Nat) (l0_10 : List (S38)) (A0_11 : Option Addr) (c0_11 : Nat) (l0_11 : List (S38)) (a0_12 : Bool) (a0_13 : ByteArray) (r : Bool) (w : World) (hr0_10 : Kd.C k38 w A0_10 l0_10.length l0_10) (hc0_10 : l0_10.length ≤ c0_10) (hr0_11 : Kd.C k38 w A0_11 l0_11.length l0_11) (hc0_11 : l0_11.length ≤ c0_11) (h : zan.f k a0_0 a0_1 a0_2 a0_3 a0_4 a0_5 a0_6 a0_7 a0_8 a0_9 l0_10 l0_11 a0_12 a0_13 = some r) :
  Calls Tryd.prog 29 #[.agg #[.int .i64 a0_0, .int .i64 a0_1, .int .i64 a0_2, .string a0_3, .int .i64 a0_4, .int .i64 a0_5, .int .i64 a0_6, .int .i64 a0_7, .string a0_8, .int .i64 a0_9, .slice A0_10 l0_10.length c0_10, .slice A0_11 l0_11.length c0_11, .bool a0_12, .string a0_13]] w fun e w' => e = .returned (.bool r) ∧ Below w.heap.size w w' := by
 have hu47 := Tryd.underlying47
 have hu38 := Tryd.underlying38
 have HR0_10 := zad.mk hr0_10
 have HC0_10 := zad.mk hc0_10
 clear hr0_10 hc0_10
 have HR0_11 := zad.mk hr0_11
 have HC0_11 := zad.mk hc0_11
 clear hr0_11 hc0_11
 have HB := zad.mk (Below.refl w.heap.size w)
 have H : (if a0_0 < 0 then (zan.j0 k true a0_0 a0_1 a0_2 a0_3 a0_4 a0_5 a0_6 a0_7 a0_8 a0_9 l0_10 l0_11 a0_12 a0_13 0 0 (⟨#[]⟩ : ByteArray)) else ((zbc.f k a0_1 a0_2 a0_3).bind fun t251 => (if t251 = true then (if (a0_13.size : Int) > 100 then (zan.j0 k true a0_0 a0_1 a0_2 a0_3 a0_4 a0_5 a0_6 a0_7 a0_8 a0_9 l0_10 l0_11 a0_12 a0_13 0 0 (⟨#[]⟩ : ByteArray)) else (if a0_12 = true then (zan.j0 k false a0_0 a0_1 a0_2 a0_3 a0_4 a0_5 a0_6 a0_7 a0_8 a0_9 l0_10 l0_11 a0_12 a0_13 0 0 (⟨#[]⟩ : ByteArray)) else (zan.j0 k (a0_13.toList != ([] : List UInt8)) a0_0 a0_1 a0_2 a0_3 a0_4 a0_5 a0_6 a0_7 a0_8 a0_9 l0_10 l0_11 a0_12 a0_13 0 0 (⟨#[]⟩ : ByteArray)))) else (zan.j0 k true a0_0 a0_1 a0_2 a0_3 a0_4 a0_5 a0_6 a0_7 a0_8 a0_9 l0_10 l0_11 a0_12 a0_13 0 0 (⟨#[]⟩ : ByteArray))))) = some r := h
 clear h
 have HC2 := zad.mk H
 clear H
 go_enter Tryd.func29, Tryd.ntmps29
 go_upto_region 2 with (first | ((with_reducible refine za7 (N := 1) rfl ?_); (try (refine zb6 (by rfl) ?_; dsimp only)); refine za8 ?hg (N := 1) ?hd (cs := #[.int .i64 a0_0, .int .i64 a0_1, .int .i64 a0_2, .string a0_3, .int .i64 a0_4, .int .i64 a0_5, .int .i64 a0_6, .int .i64 a0_7, .string a0_8, .int .i64 a0_9, .slice A0_10 l0_10.length c0_10, .slice A0_11 l0_11.length c0_11, .bool a0_12, .string a0_13]) (t := 47) ?hr ?_; (case hd => rfl); (case hg => rfl); (case hr => first | (go_simp; done) | (go_simp; rfl)); intro gb249 hg w3 hbox hb; have n0_ := zad.mk (zaq (by repeat (first | (with_reducible first | exact HB.out | apply zac | apply zaa | apply zab) | exact HB.out)) hb); have n1_ := zad.mk (hbox); have n2_ := zad.mk ((by rw [hg]; exact (zas (by repeat (first | (with_reducible first | exact HB.out | apply zac | apply zaa | apply zab) | exact HB.out))) : w.heap.size ≤ gb249)); have n3_ := zad.mk ((by rw [hg]; exact (zas (by repeat (first | (with_reducible first | exact HB.out | apply zac | apply zaa | apply zab) | exact HB.out))) : w.heap.size ≤ gb249)); clear HB; have HB := n0_; have BK249 := n1_; have GW249 := n2_; have GE249 := n3_; clear n0_ n1_ n2_ n3_; clear hb hbox hg) | ((with_reducible refine za7 (N := 3) rfl ?_); (try (refine zb6 (by rfl) ?_; dsimp only)); refine za8 ?hg (N := 3) ?hd (cs := #[.int .i64 0, .int .i64 0, .string (⟨#[]⟩ : ByteArray)]) (t := 38) ?hr ?_; (case hd => rfl); (case hg => rfl); (case hr => first | (go_simp; done) | (go_simp; rfl)); intro gb250 hg w4 hbox hb; have n0_ := zad.mk (zav (g := gb249) (o := .cells #[.int .i64 a0_0, .int .i64 a0_1, .int .i64 a0_2, .string a0_3, .int .i64 a0_4, .int .i64 a0_5, .int .i64 a0_6, .int .i64 a0_7, .string a0_8, .int .i64 a0_9, .slice A0_10 l0_10.length c0_10, .slice A0_11 l0_11.length c0_11, .bool a0_12, .string a0_13] 47 (0, 0)) (by (with_reducible repeat (first | refine zah ?_ _ | refine zaj ?_ | refine zai ?_ _)); exact BK249.out) hb); have n1_ := zad.mk (zaq (by repeat (first | (with_reducible first | exact HB.out | apply zac | apply zaa | apply zab | refine zaf ?_ GE249.out) | exact HB.out)) hb); have n2_ := zad.mk (hbox); have n3_ := zad.mk ((by rw [hg]; exact (zas (by repeat (first | (with_reducible first | exact HB.out | apply zac | apply zaa | apply zab | refine zaf ?_ GE249.out) | exact HB.out))) : w.heap.size ≤ gb250)); have n4_ := zad.mk ((by rw [hg]; exact (zas (by repeat (first | (with_reducible first | exact HB.out | apply zac | apply zaa | apply zab | refine zaf ?_ GE249.out) | exact HB.out))) : w.heap.size ≤ gb250)); have n5_ := zad.mk ((by rw [hg]; exact Nat.ne_of_lt (zcd (g := gb249) (o := .cells #[.int .i64 a0_0, .int .i64 a0_1, .int .i64 a0_2, .string a0_3, .int .i64 a0_4, .int .i64 a0_5, .int .i64 a0_6, .int .i64 a0_7, .string a0_8, .int .i64 a0_9, .slice A0_10 l0_10.length c0_10, .slice A0_11 l0_11.length c0_11, .bool a0_12, .string a0_13] 47 (0, 0)) (by (with_reducible repeat (first | refine zah ?_ _ | refine zaj ?_ | refine zai ?_ _)); exact BK249.out)) : gb249 ≠ gb250)); have n6_ := zad.mk ((by rw [hg]; exact Nat.ne_of_gt (zcd (g := gb249) (o := .cells #[.int .i64 a0_0, .int .i64 a0_1, .int .i64 a0_2, .string a0_3, .int .i64 a0_4, .int .i64 a0_5, .int .i64 a0_6, .int .i64 a0_7, .string a0_8, .int .i64 a0_9, .slice A0_10 l0_10.length c0_10, .slice A0_11 l0_11.length c0_11, .bool a0_12, .string a0_13] 47 (0, 0)) (by (with_reducible repeat (first | refine zah ?_ _ | refine zaj ?_ | refine zai ?_ _)); exact BK249.out)) : gb250 ≠ gb249)); clear BK249; clear HB; have BK249 := n0_; have HB := n1_; have BK250 := n2_; have GW250 := n3_; have GE250 := n4_; have NB249_250 := n5_; have NB250_249 := n6_; clear n0_ n1_ n2_ n3_ n4_ n5_ n6_; clear hb hbox hg; have hnb5 := NB250_249.out; have hnc5 := NB249_250.out; obtain ⟨hcz6_0, hcz6_1, hcz6_2⟩ := cq3 BK250.out; obtain ⟨hfz6_0, hfz6_1, hfz6_2⟩ := fq3 BK250.out))
 (try simp only [Act.put, List.setIfInBounds_toArray, List.set_cons_zero, List.set_cons_succ])
 go_cut [31] (fun v31 wc => ∃ (kq : Nat) (x31_1 : Bool), v31 = .bool x31_1 ∧ zad (zan.j0 kq x31_1 a0_0 a0_1 a0_2 a0_3 a0_4 a0_5 a0_6 a0_7 a0_8 a0_9 l0_10 l0_11 a0_12 a0_13 0 0 (⟨#[]⟩ : ByteArray) = some r) ∧ zad (kq ≤ k) ∧ zad (wc.heap[gb249]? = some (.cells #[.int .i64 a0_0, .int .i64 a0_1, .int .i64 a0_2, .string a0_3, .int .i64 a0_4, .int .i64 a0_5, .int .i64 a0_6, .int .i64 a0_7, .string a0_8, .int .i64 a0_9, (.slice A0_10 l0_10.length c0_10), (.slice A0_11 l0_11.length c0_11), .bool a0_12, .string a0_13] 47 (0, 0))) ∧ zad (wc.heap[gb250]? = some (.cells #[.int .i64 0, .int .i64 0, .string (⟨#[]⟩ : ByteArray)] 38 (0, 0))) ∧ zad (Below w.heap.size w wc))
 case first =>
  have H := HC2.out
  clear HC2
  by_cases c7 : a0_0 < 0
  ·rw [if_pos c7] at H
   have c7b0 : decide (a0_0 < 0) = true := decide_eq_true c7
   clear c7
   (first | rw [c7b0] | (simp only [i64_w]; rw [c7b0]) | skip)
   have H' := zad.mk H
   clear H
   have hnb8 := NB249_250.out
   have hnc8 := NB250_249.out
   obtain ⟨hcz9_0, hcz9_1, hcz9_2, hcz9_3, hcz9_4, hcz9_5, hcz9_6, hcz9_7, hcz9_8, hcz9_9, hcz9_10, hcz9_11, hcz9_12, hcz9_13⟩ := cq14 BK249.out
   obtain ⟨hfz9_0, hfz9_1, hfz9_2, hfz9_3, hfz9_4, hfz9_5, hfz9_6, hfz9_7, hfz9_8, hfz9_9, hfz9_10, hfz9_11, hfz9_12, hfz9_13⟩ := fq14 BK249.out
   go_wp2
   go_meet
   case rel => exact ⟨_, (true), (by first | rfl | (simp; done) | (simp [*]; done)), H', ⟨by first | omega | exact Nat.le_refl _⟩, ⟨by (with_reducible repeat (first | refine zah ?_ _ | refine zaj ?_ | refine zai ?_ _)); refine zbz ?_ NB249_250.out _; (with_reducible repeat (first | refine zah ?_ _ | refine zaj ?_ | refine zai ?_ _)); refine zbz ?_ NB249_250.out _; (with_reducible repeat (first | refine zah ?_ _ | refine zaj ?_ | refine zai ?_ _)); refine zbz ?_ NB249_250.out _; (with_reducible repeat (first | refine zah ?_ _ | refine zaj ?_ | refine zai ?_ _)); exact BK249.out⟩, ⟨by (with_reducible repeat (first | refine zah ?_ _ | refine zaj ?_ | refine zai ?_ _)); refine pq3 (.int .i64 0) (.int .i64 0) (.string (⟨#[]⟩ : ByteArray)) ?_; (with_reducible repeat (first | refine zah ?_ _ | refine zaj ?_ | refine zai ?_ _)); exact BK250.out⟩, ⟨by repeat (first | (with_reducible first | exact HB.out | apply zac | apply zaa | apply zab | refine zaf ?_ GE249.out | refine zaf ?_ GE250.out) | exact HB.out)⟩⟩
  ·rw [if_neg c7] at H
   have c7b0 : decide (a0_0 < 0) = false := decide_eq_false c7
   clear c7
   (first | rw [c7b0] | (simp only [i64_w]; rw [c7b0]) | skip)
   replace H := Option.bind_eq_some_iff.mp H
   obtain ⟨t251, A100, H⟩ := H
   replace H : (if t251 = true then (if (a0_13.size : Int) > 100 then (zan.j0 k true a0_0 a0_1 a0_2 a0_3 a0_4 a0_5 a0_6 a0_7 a0_8 a0_9 l0_10 l0_11 a0_12 a0_13 0 0 (⟨#[]⟩ : ByteArray)) else (if a0_12 = true then (zan.j0 k false a0_0 a0_1 a0_2 a0_3 a0_4 a0_5 a0_6 a0_7 a0_8 a0_9 l0_10 l0_11 a0_12 a0_13 0 0 (⟨#[]⟩ : ByteArray)) else (zan.j0 k (a0_13.toList != ([] : List UInt8)) a0_0 a0_1 a0_2 a0_3 a0_4 a0_5 a0_6 a0_7 a0_8 a0_9 l0_10 l0_11 a0_12 a0_13 0 0 (⟨#[]⟩ : ByteArray)))) else (zan.j0 k true a0_0 a0_1 a0_2 a0_3 a0_4 a0_5 a0_6 a0_7 a0_8 a0_9 l0_10 l0_11 a0_12 a0_13 0 0 (⟨#[]⟩ : ByteArray))) = some r := H
   have A10 := zad.mk A100
   clear A100
   by_cases c11 : t251 = true
   ·subst c11
    have H1 : (if (a0_13.size : Int) > 100 then (zan.j0 k true a0_0 a0_1 a0_2 a0_3 a0_4 a0_5 a0_6 a0_7 a0_8 a0_9 l0_10 l0_11 a0_12 a0_13 0 0 (⟨#[]⟩ : ByteArray)) else (if a0_12 = true then (zan.j0 k false a0_0 a0_1 a0_2 a0_3 a0_4 a0_5 a0_6 a0_7 a0_8 a0_9 l0_10 l0_11 a0_12 a0_13 0 0 (⟨#[]⟩ : ByteArray)) else (zan.j0 k (a0_13.toList != ([] : List UInt8)) a0_0 a0_1 a0_2 a0_3 a0_4 a0_5 a0_6 a0_7 a0_8 a0_9 l0_10 l0_11 a0_12 a0_13 0 0 (⟨#[]⟩ : ByteArray)))) = some r := by rw [if_pos rfl] at H; exact H
    clear H
    have H := H1
    clear H1
    by_cases c12 : (a0_13.size : Int) > 100
    ·rw [if_pos c12] at H
     have c12b0 : decide (100 < (a0_13.size : Int)) = true := decide_eq_true c12
     have c12b1 : decide (100 < a0_13.size) = true := decide_eq_true (by omega)
     clear c12
     have H' := zad.mk H
     clear H
     have hnb13 := NB249_250.out
     have hnc13 := NB250_249.out
     obtain ⟨hcz14_0, hcz14_1, hcz14_2, hcz14_3, hcz14_4, hcz14_5, hcz14_6, hcz14_7, hcz14_8, hcz14_9, hcz14_10, hcz14_11, hcz14_12, hcz14_13⟩ := cq14 BK249.out
     obtain ⟨hfz14_0, hfz14_1, hfz14_2, hfz14_3, hfz14_4, hfz14_5, hfz14_6, hfz14_7, hfz14_8, hfz14_9, hfz14_10, hfz14_11, hfz14_12, hfz14_13⟩ := fq14 BK249.out
     go_wp2_with (first | (go_at_call 35; (with_reducible refine (zbc.calls k a0_1 a0_2 a0_3 true _ A10.out).mono ?_); rintro e w15 ⟨rfl, hb⟩; have n0_ := zad.mk (zav (g := gb249) (o := .cells #[.int .i64 a0_0, .int .i64 a0_1, .int .i64 a0_2, .string a0_3, .int .i64 a0_4, .int .i64 a0_5, .int .i64 a0_6, .int .i64 a0_7, .string a0_8, .int .i64 a0_9, .slice A0_10 l0_10.length c0_10, .slice A0_11 l0_11.length c0_11, .bool a0_12, .string a0_13] 47 (0, 0)) (by (with_reducible repeat (first | refine zah ?_ _ | refine zaj ?_ | refine zai ?_ _)); refine zbz ?_ NB249_250.out _; (with_reducible repeat (first | refine zah ?_ _ | refine zaj ?_ | refine zai ?_ _)); refine zbz ?_ NB249_250.out _; (with_reducible repeat (first | refine zah ?_ _ | refine zaj ?_ | refine zai ?_ _)); refine zbz ?_ NB249_250.out _; (with_reducible repeat (first | refine zah ?_ _ | refine zaj ?_ | refine zai ?_ _)); exact BK249.out) hb); have n1_ := zad.mk (zav (g := gb250) (o := .cells #[.int .i64 0, .int .i64 0, .string (⟨#[]⟩ : ByteArray)] 38 (0, 0)) (by (with_reducible repeat (first | refine zah ?_ _ | refine zaj ?_ | refine zai ?_ _)); refine pq3 (.int .i64 0) (.int .i64 0) (.string (⟨#[]⟩ : ByteArray)) ?_; (with_reducible repeat (first | refine zah ?_ _ | refine zaj ?_ | refine zai ?_ _)); exact BK250.out) hb); have n2_ := zad.mk (zaq (by repeat (first | (with_reducible first | exact HB.out | apply zac | apply zaa | apply zab | refine zaf ?_ GE249.out | refine zaf ?_ GE250.out) | exact HB.out)) hb); clear BK249; clear BK250; clear HB; have BK249 := n0_; have BK250 := n1_; have HB := n2_; clear n0_ n1_ n2_; (try clear hb); (try clear hb2); (try clear hk); (try clear hi); obtain ⟨hcz16_0, hcz16_1, hcz16_2, hcz16_3, hcz16_4, hcz16_5, hcz16_6, hcz16_7, hcz16_8, hcz16_9, hcz16_10, hcz16_11, hcz16_12, hcz16_13⟩ := cq14 BK249.out; obtain ⟨hfz16_0, hfz16_1, hfz16_2, hfz16_3, hfz16_4, hfz16_5, hfz16_6, hfz16_7, hfz16_8, hfz16_9, hfz16_10, hfz16_11, hfz16_12, hfz16_13⟩ := fq14 BK249.out))
     go_meet
     case rel => exact ⟨_, (true), (by first | rfl | (simp; done) | (simp [*]; done)), H', ⟨by first | omega | exact Nat.le_refl _⟩, ⟨by (with_reducible repeat (first | refine zah ?_ _ | refine zaj ?_ | refine zai ?_ _)); exact BK249.out⟩, ⟨by (with_reducible repeat (first | refine zah ?_ _ | refine zaj ?_ | refine zai ?_ _)); exact BK250.out⟩, ⟨by repeat (first | (with_reducible first | exact HB.out | apply zac | apply zaa | apply zab | refine zaf ?_ GE249.out | refine zaf ?_ GE250.out) | exact HB.out)⟩⟩
    ·rw [if_neg c12] at H
     have c12b0 : decide (100 < (a0_13.size : Int)) = false := decide_eq_false c12
     have c12b1 : decide (100 < a0_13.size) = false := decide_eq_false (by omega)
     clear c12
     by_cases c17 : a0_12 = true
     ·subst c17
      have H1 : (zan.j0 k false a0_0 a0_1 a0_2 a0_3 a0_4 a0_5 a0_6 a0_7 a0_8 a0_9 l0_10 l0_11 true a0_13 0 0 (⟨#[]⟩ : ByteArray)) = some r := by rw [if_pos rfl] at H; exact H
      clear H
      have H := H1
      clear H1
      have H' := zad.mk H
      clear H
      have hnb18 := NB249_250.out
      have hnc18 := NB250_249.out
      obtain ⟨hcz19_0, hcz19_1, hcz19_2, hcz19_3, hcz19_4, hcz19_5, hcz19_6, hcz19_7, hcz19_8, hcz19_9, hcz19_10, hcz19_11, hcz19_12, hcz19_13⟩ := cq14 BK249.out
      obtain ⟨hfz19_0, hfz19_1, hfz19_2, hfz19_3, hfz19_4, hfz19_5, hfz19_6, hfz19_7, hfz19_8, hfz19_9, hfz19_10, hfz19_11, hfz19_12, hfz19_13⟩ := fq14 BK249.out
      go_wp2_with (first | (go_at_call 35; (with_reducible refine (zbc.calls k a0_1 a0_2 a0_3 true _ A10.out).mono ?_); rintro e w20 ⟨rfl, hb⟩; have n0_ := zad.mk (zav (g := gb249) (o := .cells #[.int .i64 a0_0, .int .i64 a0_1, .int .i64 a0_2, .string a0_3, .int .i64 a0_4, .int .i64 a0_5, .int .i64 a0_6, .int .i64 a0_7, .string a0_8, .int .i64 a0_9, .slice A0_10 l0_10.length c0_10, .slice A0_11 l0_11.length c0_11, .bool true, .string a0_13] 47 (0, 0)) (by (with_reducible repeat (first | refine zah ?_ _ | refine zaj ?_ | refine zai ?_ _)); refine zbz ?_ NB249_250.out _; (with_reducible repeat (first | refine zah ?_ _ | refine zaj ?_ | refine zai ?_ _)); refine zbz ?_ NB249_250.out _; (with_reducible repeat (first | refine zah ?_ _ | refine zaj ?_ | refine zai ?_ _)); refine zbz ?_ NB249_250.out _; (with_reducible repeat (first | refine zah ?_ _ | refine zaj ?_ | refine zai ?_ _)); exact BK249.out) hb); have n1_ := zad.mk (zav (g := gb250) (o := .cells #[.int .i64 0, .int .i64 0, .string (⟨#[]⟩ : ByteArray)] 38 (0, 0)) (by (with_reducible repeat (first | refine zah ?_ _ | refine zaj ?_ | refine zai ?_ _)); refine pq3 (.int .i64 0) (.int .i64 0) (.string (⟨#[]⟩ : ByteArray)) ?_; (with_reducible repeat (first | refine zah ?_ _ | refine zaj ?_ | refine zai ?_ _)); exact BK250.out) hb); have n2_ := zad.mk (zaq (by repeat (first | (with_reducible first | exact HB.out | apply zac | apply zaa | apply zab | refine zaf ?_ GE249.out | refine zaf ?_ GE250.out) | exact HB.out)) hb); clear BK249; clear BK250; clear HB; have BK249 := n0_; have BK250 := n1_; have HB := n2_; clear n0_ n1_ n2_; (try clear hb); (try clear hb2); (try clear hk); (try clear hi); obtain ⟨hcz21_0, hcz21_1, hcz21_2, hcz21_3, hcz21_4, hcz21_5, hcz21_6, hcz21_7, hcz21_8, hcz21_9, hcz21_10, hcz21_11, hcz21_12, hcz21_13⟩ := cq14 BK249.out; obtain ⟨hfz21_0, hfz21_1, hfz21_2, hfz21_3, hfz21_4, hfz21_5, hfz21_6, hfz21_7, hfz21_8, hfz21_9, hfz21_10, hfz21_11, hfz21_12, hfz21_13⟩ := fq14 BK249.out))
      go_meet
      case rel => exact ⟨_, (false), (by first | rfl | (simp; done) | (simp [*]; done)), H', ⟨by first | omega | exact Nat.le_refl _⟩, ⟨by (with_reducible repeat (first | refine zah ?_ _ | refine zaj ?_ | refine zai ?_ _)); exact BK249.out⟩, ⟨by (with_reducible repeat (first | refine zah ?_ _ | refine zaj ?_ | refine zai ?_ _)); exact BK250.out⟩, ⟨by repeat (first | (with_reducible first | exact HB.out | apply zac | apply zaa | apply zab | refine zaf ?_ GE249.out | refine zaf ?_ GE250.out) | exact HB.out)⟩⟩
     ·replace c17 := Bool.eq_false_iff.mpr c17
      subst c17
      have H1 : (zan.j0 k (a0_13.toList != ([] : List UInt8)) a0_0 a0_1 a0_2 a0_3 a0_4 a0_5 a0_6 a0_7 a0_8 a0_9 l0_10 l0_11 false a0_13 0 0 (⟨#[]⟩ : ByteArray)) = some r := by rw [if_neg (show ¬ (false = true) by decide)] at H; exact H
      clear H
      have H := H1
      clear H1
      have H' := zad.mk H
      clear H
      have hnb22 := NB249_250.out
      have hnc22 := NB250_249.out
      obtain ⟨hcz23_0, hcz23_1, hcz23_2, hcz23_3, hcz23_4, hcz23_5, hcz23_6, hcz23_7, hcz23_8, hcz23_9, hcz23_10, hcz23_11, hcz23_12, hcz23_13⟩ := cq14 BK249.out
      obtain ⟨hfz23_0, hfz23_1, hfz23_2, hfz23_3, hfz23_4, hfz23_5, hfz23_6, hfz23_7, hfz23_8, hfz23_9, hfz23_10, hfz23_11, hfz23_12, hfz23_13⟩ := fq14 BK249.out
      go_wp2_with (first | (go_at_call 35; (with_reducible refine (zbc.calls k a0_1 a0_2 a0_3 true _ A10.out).mono ?_); rintro e w24 ⟨rfl, hb⟩; have n0_ := zad.mk (zav (g := gb249) (o := .cells #[.int .i64 a0_0, .int .i64 a0_1, .int .i64 a0_2, .string a0_3, .int .i64 a0_4, .int .i64 a0_5, .int .i64 a0_6, .int .i64 a0_7, .string a0_8, .int .i64 a0_9, .slice A0_10 l0_10.length c0_10, .slice A0_11 l0_11.length c0_11, .bool false, .string a0_13] 47 (0, 0)) (by (with_reducible repeat (first | refine zah ?_ _ | refine zaj ?_ | refine zai ?_ _)); refine zbz ?_ NB249_250.out _; (with_reducible repeat (first | refine zah ?_ _ | refine zaj ?_ | refine zai ?_ _)); refine zbz ?_ NB249_250.out _; (with_reducible repeat (first | refine zah ?_ _ | refine zaj ?_ | refine zai ?_ _)); refine zbz ?_ NB249_250.out _; (with_reducible repeat (first | refine zah ?_ _ | refine zaj ?_ | refine zai ?_ _)); exact BK249.out) hb); have n1_ := zad.mk (zav (g := gb250) (o := .cells #[.int .i64 0, .int .i64 0, .string (⟨#[]⟩ : ByteArray)] 38 (0, 0)) (by (with_reducible repeat (first | refine zah ?_ _ | refine zaj ?_ | refine zai ?_ _)); refine pq3 (.int .i64 0) (.int .i64 0) (.string (⟨#[]⟩ : ByteArray)) ?_; (with_reducible repeat (first | refine zah ?_ _ | refine zaj ?_ | refine zai ?_ _)); exact BK250.out) hb); have n2_ := zad.mk (zaq (by repeat (first | (with_reducible first | exact HB.out | apply zac | apply zaa | apply zab | refine zaf ?_ GE249.out | refine zaf ?_ GE250.out) | exact HB.out)) hb); clear BK249; clear BK250; clear HB; have BK249 := n0_; have BK250 := n1_; have HB := n2_; clear n0_ n1_ n2_; (try clear hb); (try clear hb2); (try clear hk); (try clear hi); obtain ⟨hcz25_0, hcz25_1, hcz25_2, hcz25_3, hcz25_4, hcz25_5, hcz25_6, hcz25_7, hcz25_8, hcz25_9, hcz25_10, hcz25_11, hcz25_12, hcz25_13⟩ := cq14 BK249.out; obtain ⟨hfz25_0, hfz25_1, hfz25_2, hfz25_3, hfz25_4, hfz25_5, hfz25_6, hfz25_7, hfz25_8, hfz25_9, hfz25_10, hfz25_11, hfz25_12, hfz25_13⟩ := fq14 BK249.out))
      go_meet
      case rel => exact ⟨_, ((a0_13.toList != ([] : List UInt8))), (by first | rfl | (simp; done) | (simp [*]; done) | (simp [*]; cases a0_13.toList <;> rfl)), H', ⟨by first | omega | exact Nat.le_refl _⟩, ⟨by (with_reducible repeat (first | refine zah ?_ _ | refine zaj ?_ | refine zai ?_ _)); exact BK249.out⟩, ⟨by (with_reducible repeat (first | refine zah ?_ _ | refine zaj ?_ | refine zai ?_ _)); exact BK250.out⟩, ⟨by repeat (first | (with_reducible first | exact HB.out | apply zac | apply zaa | apply zab | refine zaf ?_ GE249.out | refine zaf ?_ GE250.out) | exact HB.out)⟩⟩
   ·replace c11 := Bool.eq_false_iff.mpr c11
    subst c11
    have H1 : (zan.j0 k true a0_0 a0_1 a0_2 a0_3 a0_4 a0_5 a0_6 a0_7 a0_8 a0_9 l0_10 l0_11 a0_12 a0_13 0 0 (⟨#[]⟩ : ByteArray)) = some r := by rw [if_neg (show ¬ (false = true) by decide)] at H; exact H
    clear H
    have H := H1
    clear H1
    have H' := zad.mk H
    clear H
    have hnb26 := NB249_250.out
    have hnc26 := NB250_249.out
    obtain ⟨hcz27_0, hcz27_1, hcz27_2, hcz27_3, hcz27_4, hcz27_5, hcz27_6, hcz27_7, hcz27_8, hcz27_9, hcz27_10, hcz27_11, hcz27_12, hcz27_13⟩ := cq14 BK249.out
    obtain ⟨hfz27_0, hfz27_1, hfz27_2, hfz27_3, hfz27_4, hfz27_5, hfz27_6, hfz27_7, hfz27_8, hfz27_9, hfz27_10, hfz27_11, hfz27_12, hfz27_13⟩ := fq14 BK249.out
    go_wp2_with (first | (go_at_call 35; (with_reducible refine (zbc.calls k a0_1 a0_2 a0_3 false _ A10.out).mono ?_); rintro e w28 ⟨rfl, hb⟩; have n0_ := zad.mk (zav (g := gb249) (o := .cells #[.int .i64 a0_0, .int .i64 a0_1, .int .i64 a0_2, .string a0_3, .int .i64 a0_4, .int .i64 a0_5, .int .i64 a0_6, .int .i64 a0_7, .string a0_8, .int .i64 a0_9, .slice A0_10 l0_10.length c0_10, .slice A0_11 l0_11.length c0_11, .bool a0_12, .string a0_13] 47 (0, 0)) (by (with_reducible repeat (first | refine zah ?_ _ | refine zaj ?_ | refine zai ?_ _)); refine zbz ?_ NB249_250.out _; (with_reducible repeat (first | refine zah ?_ _ | refine zaj ?_ | refine zai ?_ _)); refine zbz ?_ NB249_250.out _; (with_reducible repeat (first | refine zah ?_ _ | refine zaj ?_ | refine zai ?_ _)); refine zbz ?_ NB249_250.out _; (with_reducible repeat (first | refine zah ?_ _ | refine zaj ?_ | refine zai ?_ _)); exact BK249.out) hb); have n1_ := zad.mk (zav (g := gb250) (o := .cells #[.int .i64 0, .int .i64 0, .string (⟨#[]⟩ : ByteArray)] 38 (0, 0)) (by (with_reducible repeat (first | refine zah ?_ _ | refine zaj ?_ | refine zai ?_ _)); refine pq3 (.int .i64 0) (.int .i64 0) (.string (⟨#[]⟩ : ByteArray)) ?_; (with_reducible repeat (first | refine zah ?_ _ | refine zaj ?_ | refine zai ?_ _)); exact BK250.out) hb); have n2_ := zad.mk (zaq (by repeat (first | (with_reducible first | exact HB.out | apply zac | apply zaa | apply zab | refine zaf ?_ GE249.out | refine zaf ?_ GE250.out) | exact HB.out)) hb); clear BK249; clear BK250; clear HB; have BK249 := n0_; have BK250 := n1_; have HB := n2_; clear n0_ n1_ n2_; (try clear hb); (try clear hb2); (try clear hk); (try clear hi)))
    go_meet
    case rel => exact ⟨_, (true), (by first | rfl | (simp; done) | (simp [*]; done)), H', ⟨by first | omega | exact Nat.le_refl _⟩, ⟨by (with_reducible repeat (first | refine zah ?_ _ | refine zaj ?_ | refine zai ?_ _)); exact BK249.out⟩, ⟨by (with_reducible repeat (first | refine zah ?_ _ | refine zaj ?_ | refine zai ?_ _)); exact BK250.out⟩, ⟨by repeat (first | (with_reducible first | exact HB.out | apply zac | apply zaa | apply zab | refine zaf ?_ GE249.out | refine zaf ?_ GE250.out) | exact HB.out)⟩⟩
 case rest =>
  clear HC2
  try clear c1
  try clear c2
  try clear p2
  try clear c5
  try clear c7
  try clear c7b0
  try clear c8
  try clear c11
  try clear c12
  try clear c12b0
  try clear c12b1
  try clear c13
  try clear c17
  try clear c18
  try clear c22
  try clear c26
  try clear hcz14_0 hcz14_1 hcz14_10 hcz14_11 hcz14_12 hcz14_13 hcz14_2 hcz14_3 hcz14_4 hcz14_5 hcz14_6 hcz14_7 hcz14_8 hcz14_9
  try clear hcz16_0 hcz16_1 hcz16_10 hcz16_11 hcz16_12 hcz16_13 hcz16_2 hcz16_3 hcz16_4 hcz16_5 hcz16_6 hcz16_7 hcz16_8 hcz16_9
  try clear hcz19_0 hcz19_1 hcz19_10 hcz19_11 hcz19_12 hcz19_13 hcz19_2 hcz19_3 hcz19_4 hcz19_5 hcz19_6 hcz19_7 hcz19_8 hcz19_9
  try clear hcz21_0 hcz21_1 hcz21_10 hcz21_11 hcz21_12 hcz21_13 hcz21_2 hcz21_3 hcz21_4 hcz21_5 hcz21_6 hcz21_7 hcz21_8 hcz21_9
  try clear hcz23_0 hcz23_1 hcz23_10 hcz23_11 hcz23_12 hcz23_13 hcz23_2 hcz23_3 hcz23_4 hcz23_5 hcz23_6 hcz23_7 hcz23_8 hcz23_9
  try clear hcz25_0 hcz25_1 hcz25_10 hcz25_11 hcz25_12 hcz25_13 hcz25_2 hcz25_3 hcz25_4 hcz25_5 hcz25_6 hcz25_7 hcz25_8 hcz25_9
  try clear hcz27_0 hcz27_1 hcz27_10 hcz27_11 hcz27_12 hcz27_13 hcz27_2 hcz27_3 hcz27_4 hcz27_5 hcz27_6 hcz27_7 hcz27_8 hcz27_9
  try clear hcz6_0 hcz6_1 hcz6_2
  try clear hcz9_0 hcz9_1 hcz9_10 hcz9_11 hcz9_12 hcz9_13 hcz9_2 hcz9_3 hcz9_4 hcz9_5 hcz9_6 hcz9_7 hcz9_8 hcz9_9
  try clear hfz14_0 hfz14_1 hfz14_10 hfz14_11 hfz14_12 hfz14_13 hfz14_2 hfz14_3 hfz14_4 hfz14_5 hfz14_6 hfz14_7 hfz14_8 hfz14_9
  try clear hfz16_0 hfz16_1 hfz16_10 hfz16_11 hfz16_12 hfz16_13 hfz16_2 hfz16_3 hfz16_4 hfz16_5 hfz16_6 hfz16_7 hfz16_8 hfz16_9
  try clear hfz19_0 hfz19_1 hfz19_10 hfz19_11 hfz19_12 hfz19_13 hfz19_2 hfz19_3 hfz19_4 hfz19_5 hfz19_6 hfz19_7 hfz19_8 hfz19_9
  try clear hfz21_0 hfz21_1 hfz21_10 hfz21_11 hfz21_12 hfz21_13 hfz21_2 hfz21_3 hfz21_4 hfz21_5 hfz21_6 hfz21_7 hfz21_8 hfz21_9
  try clear hfz23_0 hfz23_1 hfz23_10 hfz23_11 hfz23_12 hfz23_13 hfz23_2 hfz23_3 hfz23_4 hfz23_5 hfz23_6 hfz23_7 hfz23_8 hfz23_9
  try clear hfz25_0 hfz25_1 hfz25_10 hfz25_11 hfz25_12 hfz25_13 hfz25_2 hfz25_3 hfz25_4 hfz25_5 hfz25_6 hfz25_7 hfz25_8 hfz25_9
  try clear hfz27_0 hfz27_1 hfz27_10 hfz27_11 hfz27_12 hfz27_13 hfz27_2 hfz27_3 hfz27_4 hfz27_5 hfz27_6 hfz27_7 hfz27_8 hfz27_9
  try clear hfz6_0 hfz6_1 hfz6_2
  try clear hfz9_0 hfz9_1 hfz9_10 hfz9_11 hfz9_12 hfz9_13 hfz9_2 hfz9_3 hfz9_4 hfz9_5 hfz9_6 hfz9_7 hfz9_8 hfz9_9
  obtain ⟨kq, x31_1, rfl, HA, HJ1, BK249, BK250, HB⟩ := hcut
  cases kq with
  | zero => exact absurd HA.out (by simp [zan.j0])
  | succ kj1 =>
   have H := HA.out
   clear HA
   simp only [zan.j0] at H
   by_cases c29 : x31_1 = true
   ·subst c29
    have H1 : (some false) = some r := by rw [if_pos rfl] at H; exact H
    clear H
    have H := H1
    clear H1
    obtain rfl := Option.some.inj H
    go_wp2
    go_ret
    exact ⟨by first | rfl | (simp [zam, zal] <;> rfl) | (simp [*, zam, zal] <;> rfl), by repeat (first | (with_reducible first | exact HB.out | apply zac | apply zaa | apply zab | refine zaf ?_ GE249.out | refine zaf ?_ GE250.out) | exact HB.out)⟩
   ·replace c29 := Bool.eq_false_iff.mpr c29
    subst c29
    have H1 : (zan.l0 kj1 0 a0_0 a0_1 a0_2 a0_3 a0_4 a0_5 a0_6 a0_7 a0_8 a0_9 l0_10 l0_11 a0_12 a0_13 0 0 (⟨#[]⟩ : ByteArray)) = some r := by rw [if_neg (show ¬ (false = true) by decide)] at H; exact H
    clear H
    have H := H1
    clear H1
    have H' := zad.mk H
    clear H
    go_wp2
    go_loopg [4] kj1 (fun kq v4 w' => ∃ (x4_2 : Int), v4 = .int .i64 x4_2 ∧ zad (zan.l0 kq x4_2 a0_0 a0_1 a0_2 a0_3 a0_4 a0_5 a0_6 a0_7 a0_8 a0_9 l0_10 l0_11 a0_12 a0_13 0 0 (⟨#[]⟩ : ByteArray) = some r) ∧ zad (kq ≤ kj1) ∧ zad (w'.heap[gb249]? = some (.cells #[.int .i64 a0_0, .int .i64 a0_1, .int .i64 a0_2, .string a0_3, .int .i64 a0_4, .int .i64 a0_5, .int .i64 a0_6, .int .i64 a0_7, .string a0_8, .int .i64 a0_9, (.slice A0_10 l0_10.length c0_10), (.slice A0_11 l0_11.length c0_11), .bool a0_12, .string a0_13] 47 (0, 0))) ∧ zad (w'.heap[gb250]? = some (.cells #[.int .i64 0, .int .i64 0, .string (⟨#[]⟩ : ByteArray)] 38 (0, 0))) ∧ zad (Below w.heap.size w w'))
    case atStart => exact ⟨(0), (by first | rfl | (simp; done) | (simp [*]; done)), H', ⟨Nat.le_refl _⟩, ⟨by (with_reducible repeat (first | refine zah ?_ _ | refine zaj ?_ | refine zai ?_ _)); exact BK249.out⟩, ⟨by (with_reducible repeat (first | refine zah ?_ _ | refine zaj ?_ | refine zai ?_ _)); exact BK250.out⟩, ⟨by repeat (first | (with_reducible first | exact HB.out | apply zac | apply zaa | apply zab | refine zaf ?_ GE249.out | refine zaf ?_ GE250.out) | exact HB.out)⟩⟩
    case round =>
     clear H'
     try clear c1
     try clear c2
     try clear p2 p2
     try clear c5
     try clear c7
     try clear c7b0
     try clear c8
     try clear c11
     try clear c12
     try clear c12b0
     try clear c12b1
     try clear c13
     try clear c17
     try clear c18
     try clear c22
     try clear c26
     try clear c29
     try clear hcz14_0 hcz14_1 hcz14_10 hcz14_11 hcz14_12 hcz14_13 hcz14_2 hcz14_3 hcz14_4 hcz14_5 hcz14_6 hcz14_7 hcz14_8 hcz14_9
     try clear hcz16_0 hcz16_1 hcz16_10 hcz16_11 hcz16_12 hcz16_13 hcz16_2 hcz16_3 hcz16_4 hcz16_5 hcz16_6 hcz16_7 hcz16_8 hcz16_9
     try clear hcz19_0 hcz19_1 hcz19_10 hcz19_11 hcz19_12 hcz19_13 hcz19_2 hcz19_3 hcz19_4 hcz19_5 hcz19_6 hcz19_7 hcz19_8 hcz19_9
     try clear hcz21_0 hcz21_1 hcz21_10 hcz21_11 hcz21_12 hcz21_13 hcz21_2 hcz21_3 hcz21_4 hcz21_5 hcz21_6 hcz21_7 hcz21_8 hcz21_9
     try clear hcz23_0 hcz23_1 hcz23_10 hcz23_11 hcz23_12 hcz23_13 hcz23_2 hcz23_3 hcz23_4 hcz23_5 hcz23_6 hcz23_7 hcz23_8 hcz23_9
     try clear hcz25_0 hcz25_1 hcz25_10 hcz25_11 hcz25_12 hcz25_13 hcz25_2 hcz25_3 hcz25_4 hcz25_5 hcz25_6 hcz25_7 hcz25_8 hcz25_9
     try clear hcz27_0 hcz27_1 hcz27_10 hcz27_11 hcz27_12 hcz27_13 hcz27_2 hcz27_3 hcz27_4 hcz27_5 hcz27_6 hcz27_7 hcz27_8 hcz27_9
     try clear hcz6_0 hcz6_1 hcz6_2
     try clear hcz9_0 hcz9_1 hcz9_10 hcz9_11 hcz9_12 hcz9_13 hcz9_2 hcz9_3 hcz9_4 hcz9_5 hcz9_6 hcz9_7 hcz9_8 hcz9_9
     try clear hfz14_0 hfz14_1 hfz14_10 hfz14_11 hfz14_12 hfz14_13 hfz14_2 hfz14_3 hfz14_4 hfz14_5 hfz14_6 hfz14_7 hfz14_8 hfz14_9
     try clear hfz16_0 hfz16_1 hfz16_10 hfz16_11 hfz16_12 hfz16_13 hfz16_2 hfz16_3 hfz16_4 hfz16_5 hfz16_6 hfz16_7 hfz16_8 hfz16_9
     try clear hfz19_0 hfz19_1 hfz19_10 hfz19_11 hfz19_12 hfz19_13 hfz19_2 hfz19_3 hfz19_4 hfz19_5 hfz19_6 hfz19_7 hfz19_8 hfz19_9
     try clear hfz21_0 hfz21_1 hfz21_10 hfz21_11 hfz21_12 hfz21_13 hfz21_2 hfz21_3 hfz21_4 hfz21_5 hfz21_6 hfz21_7 hfz21_8 hfz21_9
     try clear hfz23_0 hfz23_1 hfz23_10 hfz23_11 hfz23_12 hfz23_13 hfz23_2 hfz23_3 hfz23_4 hfz23_5 hfz23_6 hfz23_7 hfz23_8 hfz23_9
     try clear hfz25_0 hfz25_1 hfz25_10 hfz25_11 hfz25_12 hfz25_13 hfz25_2 hfz25_3 hfz25_4 hfz25_5 hfz25_6 hfz25_7 hfz25_8 hfz25_9
     try clear hfz27_0 hfz27_1 hfz27_10 hfz27_11 hfz27_12 hfz27_13 hfz27_2 hfz27_3 hfz27_4 hfz27_5 hfz27_6 hfz27_7 hfz27_8 hfz27_9
     try clear hfz6_0 hfz6_1 hfz6_2
     try clear hfz9_0 hfz9_1 hfz9_10 hfz9_11 hfz9_12 hfz9_13 hfz9_2 hfz9_3 hfz9_4 hfz9_5 hfz9_6 hfz9_7 hfz9_8 hfz9_9
     obtain ⟨x4_2, rfl, HA, HK2, BK249, BK250, HB⟩ := hrel
     cases gk with
     | zero => exact absurd HA.out (by simp [zan.l0])
     | succ k2 =>
      have H := HA.out
      clear HA
      simp only [zan.l0] at H
      by_cases c30 : x4_2 < (a0_13.size : Int)
      ·rw [if_pos c30] at H
       have c30b0 : decide (x4_2 < (a0_13.size : Int)) = true := decide_eq_true c30
       clear c30
       by_cases c31 : 0 ≤ x4_2
       ·rw [if_pos c31] at H
        have c31b0 : decide (0 ≤ x4_2) = true := decide_eq_true c31
        clear c31
        by_cases c33 : (bt a0_13 x4_2) = 10
        ·rw [if_pos c33] at H
         have c33b0 : ((bt a0_13 x4_2) == 10) = true := beq_iff_eq.mpr c33
         have c33b1 : ((bt a0_13 x4_2) != 10) = false := bne_eq_false_iff_eq.mpr c33
         clear c33
         obtain rfl := Option.some.inj H
         have hnb34 := NB249_250.out
         have hnc34 := NB250_249.out
         obtain ⟨hcz35_0, hcz35_1, hcz35_2, hcz35_3, hcz35_4, hcz35_5, hcz35_6, hcz35_7, hcz35_8, hcz35_9, hcz35_10, hcz35_11, hcz35_12, hcz35_13⟩ := cq14 BK249.out
         obtain ⟨hfz35_0, hfz35_1, hfz35_2, hfz35_3, hfz35_4, hfz35_5, hfz35_6, hfz35_7, hfz35_8, hfz35_9, hfz35_10, hfz35_11, hfz35_12, hfz35_13⟩ := fq14 BK249.out
         have p32 : 0 ≤ (x4_2 : Int) := of_decide_eq_true (by first | (with_reducible assumption) | assumption)
         have q32 : x4_2 < (a0_13.size : Int) := of_decide_eq_true (by first | (with_reducible assumption) | assumption)
         have hx32 := bt_at a0_13 x4_2
         replace p32 := eq_true p32
         replace q32 := eq_true q32
         go_wp2
         go_ret
         exact ⟨by first | rfl | (simp [zam, zal] <;> rfl) | (simp [*, zam, zal] <;> rfl), by repeat (first | (with_reducible first | exact HB.out | apply zac | apply zaa | apply zab | refine zaf ?_ GE249.out | refine zaf ?_ GE250.out) | exact HB.out)⟩
        ·rw [if_neg c33] at H
         have c33b0 : ((bt a0_13 x4_2) == 10) = false := beq_eq_false_iff_ne.mpr c33
         have c33b1 : ((bt a0_13 x4_2) != 10) = true := bne_iff_ne.mpr c33
         have H' := zad.mk H
         clear H
         have hnb36 := NB249_250.out
         have hnc36 := NB250_249.out
         obtain ⟨hcz37_0, hcz37_1, hcz37_2, hcz37_3, hcz37_4, hcz37_5, hcz37_6, hcz37_7, hcz37_8, hcz37_9, hcz37_10, hcz37_11, hcz37_12, hcz37_13⟩ := cq14 BK249.out
         obtain ⟨hfz37_0, hfz37_1, hfz37_2, hfz37_3, hfz37_4, hfz37_5, hfz37_6, hfz37_7, hfz37_8, hfz37_9, hfz37_10, hfz37_11, hfz37_12, hfz37_13⟩ := fq14 BK249.out
         have p32 : 0 ≤ (x4_2 : Int) := of_decide_eq_true (by first | (with_reducible assumption) | assumption)
         have q32 : x4_2 < (a0_13.size : Int) := of_decide_eq_true (by first | (with_reducible assumption) | assumption)
         have hx32 := bt_at a0_13 x4_2
         replace p32 := eq_true p32
         replace q32 := eq_true q32
         go_wp2
         go_roundg k2
         case measure => have := HJ1.out; have := HK2.out; omega
         case rel => exact ⟨(wrap64 (x4_2 + 1)), (by first | rfl | (simp; done) | (simp [*]; done)), H', ⟨by have := HJ1.out; have := HK2.out; omega⟩, ⟨by (with_reducible repeat (first | refine zah ?_ _ | refine zaj ?_ | refine zai ?_ _)); exact BK249.out⟩, ⟨by (with_reducible repeat (first | refine zah ?_ _ | refine zaj ?_ | refine zai ?_ _)); exact BK250.out⟩, ⟨by repeat (first | (with_reducible first | exact HB.out | apply zac | apply zaa | apply zab | refine zaf ?_ GE249.out | refine zaf ?_ GE250.out) | exact HB.out)⟩⟩
       ·rw [if_neg c31] at H
        exact absurd H (by simp)
      ·rw [if_neg c30] at H
       have c30b0 : decide (x4_2 < (a0_13.size : Int)) = false := decide_eq_false c30
       clear c30
       by_cases c38 : a0_4 = 1
       ·rw [if_pos c38] at H
        have c38b0 : (a0_4 == 1) = true := beq_iff_eq.mpr c38
        have c38b1 : (a0_4 != 1) = false := bne_eq_false_iff_eq.mpr c38
        clear c38
        replace H := Option.bind_eq_some_iff.mp H
        obtain ⟨t252, A390, H⟩ := H
        replace H : (if t252 = true then ((zbc.f k2 a0_6 a0_7 a0_8).bind fun t253 => (if t253 = true then (some ((l0_11.length : Int) == 0)) else (some false))) else (some false)) = some r := H
        have A39 := zad.mk A390
        clear A390
        by_cases c40 : t252 = true
        ·subst c40
         have H1 : ((zbc.f k2 a0_6 a0_7 a0_8).bind fun t253 => (if t253 = true then (some ((l0_11.length : Int) == 0)) else (some false))) = some r := by rw [if_pos rfl] at H; exact H
         clear H
         have H := H1
         clear H1
         replace H := Option.bind_eq_some_iff.mp H
         obtain ⟨t253, A410, H⟩ := H
         replace H : (if t253 = true then (some ((l0_11.length : Int) == 0)) else (some false)) = some r := H
         have A41 := zad.mk A410
         clear A410
         by_cases c42 : t253 = true
         ·subst c42
          have H1 : (some ((l0_11.length : Int) == 0)) = some r := by rw [if_pos rfl] at H; exact H
          clear H
          have H := H1
          clear H1
          obtain rfl := Option.some.inj H
          have hnb43 := NB249_250.out
          have hnc43 := NB250_249.out
          obtain ⟨hcz44_0, hcz44_1, hcz44_2, hcz44_3, hcz44_4, hcz44_5, hcz44_6, hcz44_7, hcz44_8, hcz44_9, hcz44_10, hcz44_11, hcz44_12, hcz44_13⟩ := cq14 BK249.out
          obtain ⟨hfz44_0, hfz44_1, hfz44_2, hfz44_3, hfz44_4, hfz44_5, hfz44_6, hfz44_7, hfz44_8, hfz44_9, hfz44_10, hfz44_11, hfz44_12, hfz44_13⟩ := fq14 BK249.out
          go_wp2_with (first | ((with_reducible refine za0 (f := 36) rfl ?_); refine zbq (some 53) rfl rfl Tryd.func36 (by kernel_rfl) rfl #[.int .i64 a0_5, .int .i64 a0_9, .slice A0_10 l0_10.length c0_10] rfl (by (try simp only [List.map_toArray, List.map_cons, List.map_nil]); first | done | rfl | (simp only [List.length_drop, List.length_take]; rfl)) ?_; (with_reducible refine (zau.calls k2 a0_5 a0_9 _ _ l0_10 true _ ?side1 ?side2 A39.out).mono ?_); (case side1 => repeat (first | exact (Kd.zbn HR0_10.out HB.out) | (with_reducible refine Kd.zb7 ?_ _) | (with_reducible refine Kd.C_drewN ?_ _) | (with_reducible refine Kd.C_drew ?_))); (case side2 => exact HC0_10.out); rintro e w45 ⟨rfl, hb⟩; refine ⟨_, rfl, ?_⟩; have n0_ := zad.mk (zav (g := gb249) (o := .cells #[.int .i64 a0_0, .int .i64 a0_1, .int .i64 a0_2, .string a0_3, .int .i64 a0_4, .int .i64 a0_5, .int .i64 a0_6, .int .i64 a0_7, .string a0_8, .int .i64 a0_9, .slice A0_10 l0_10.length c0_10, .slice A0_11 l0_11.length c0_11, .bool a0_12, .string a0_13] 47 (0, 0)) (by (with_reducible repeat (first | refine zah ?_ _ | refine zaj ?_ | refine zai ?_ _)); exact BK249.out) hb); have n1_ := zad.mk (zav (g := gb250) (o := .cells #[.int .i64 0, .int .i64 0, .string (⟨#[]⟩ : ByteArray)] 38 (0, 0)) (by (with_reducible repeat (first | refine zah ?_ _ | refine zaj ?_ | refine zai ?_ _)); exact BK250.out) hb); have n2_ := zad.mk (zaq (by repeat (first | (with_reducible first | exact HB.out | apply zac | apply zaa | apply zab | refine zaf ?_ GE249.out | refine zaf ?_ GE250.out) | exact HB.out)) hb); clear BK249; clear BK250; clear HB; have BK249 := n0_; have BK250 := n1_; have HB := n2_; clear n0_ n1_ n2_; (try clear hb); (try clear hb2); (try clear hk); (try clear hi); obtain ⟨hcz46_0, hcz46_1, hcz46_2, hcz46_3, hcz46_4, hcz46_5, hcz46_6, hcz46_7, hcz46_8, hcz46_9, hcz46_10, hcz46_11, hcz46_12, hcz46_13⟩ := cq14 BK249.out; obtain ⟨hfz46_0, hfz46_1, hfz46_2, hfz46_3, hfz46_4, hfz46_5, hfz46_6, hfz46_7, hfz46_8, hfz46_9, hfz46_10, hfz46_11, hfz46_12, hfz46_13⟩ := fq14 BK249.out) | (go_at_call 35; (with_reducible refine (zbc.calls k2 a0_6 a0_7 a0_8 true _ A41.out).mono ?_); rintro e w47 ⟨rfl, hb⟩; have n0_ := zad.mk (zav (g := gb249) (o := .cells #[.int .i64 a0_0, .int .i64 a0_1, .int .i64 a0_2, .string a0_3, .int .i64 a0_4, .int .i64 a0_5, .int .i64 a0_6, .int .i64 a0_7, .string a0_8, .int .i64 a0_9, .slice A0_10 l0_10.length c0_10, .slice A0_11 l0_11.length c0_11, .bool a0_12, .string a0_13] 47 (0, 0)) (by (with_reducible repeat (first | refine zah ?_ _ | refine zaj ?_ | refine zai ?_ _)); exact BK249.out) hb); have n1_ := zad.mk (zav (g := gb250) (o := .cells #[.int .i64 0, .int .i64 0, .string (⟨#[]⟩ : ByteArray)] 38 (0, 0)) (by (with_reducible repeat (first | refine zah ?_ _ | refine zaj ?_ | refine zai ?_ _)); exact BK250.out) hb); have n2_ := zad.mk (zaq (by repeat (first | (with_reducible first | exact HB.out | apply zac | apply zaa | apply zab | refine zaf ?_ GE249.out | refine zaf ?_ GE250.out) | exact HB.out)) hb); clear BK249; clear BK250; clear HB; have BK249 := n0_; have BK250 := n1_; have HB := n2_; clear n0_ n1_ n2_; (try clear hb); (try clear hb2); (try clear hk); (try clear hi); obtain ⟨hcz48_0, hcz48_1, hcz48_2, hcz48_3, hcz48_4, hcz48_5, hcz48_6, hcz48_7, hcz48_8, hcz48_9, hcz48_10, hcz48_11, hcz48_12, hcz48_13⟩ := cq14 BK249.out; obtain ⟨hfz48_0, hfz48_1, hfz48_2, hfz48_3, hfz48_4, hfz48_5, hfz48_6, hfz48_7, hfz48_8, hfz48_9, hfz48_10, hfz48_11, hfz48_12, hfz48_13⟩ := fq14 BK249.out))
          go_ret
          exact ⟨by first | rfl | (simp [zam, zal] <;> rfl) | (simp [*, zam, zal] <;> rfl), by repeat (first | (with_reducible first | exact HB.out | apply zac | apply zaa | apply zab | refine zaf ?_ GE249.out | refine zaf ?_ GE250.out) | exact HB.out)⟩
         ·replace c42 := Bool.eq_false_iff.mpr c42
          subst c42
          have H1 : (some false) = some r := by rw [if_neg (show ¬ (false = true) by decide)] at H; exact H
          clear H
          have H := H1
          clear H1
          obtain rfl := Option.some.inj H
          have hnb49 := NB249_250.out
          have hnc49 := NB250_249.out
          obtain ⟨hcz50_0, hcz50_1, hcz50_2, hcz50_3, hcz50_4, hcz50_5, hcz50_6, hcz50_7, hcz50_8, hcz50_9, hcz50_10, hcz50_11, hcz50_12, hcz50_13⟩ := cq14 BK249.out
          obtain ⟨hfz50_0, hfz50_1, hfz50_2, hfz50_3, hfz50_4, hfz50_5, hfz50_6, hfz50_7, hfz50_8, hfz50_9, hfz50_10, hfz50_11, hfz50_12, hfz50_13⟩ := fq14 BK249.out
          go_wp2_with (first | ((with_reducible refine za0 (f := 36) rfl ?_); refine zbq (some 53) rfl rfl Tryd.func36 (by kernel_rfl) rfl #[.int .i64 a0_5, .int .i64 a0_9, .slice A0_10 l0_10.length c0_10] rfl (by (try simp only [List.map_toArray, List.map_cons, List.map_nil]); first | done | rfl | (simp only [List.length_drop, List.length_take]; rfl)) ?_; (with_reducible refine (zau.calls k2 a0_5 a0_9 _ _ l0_10 true _ ?side1 ?side2 A39.out).mono ?_); (case side1 => repeat (first | exact (Kd.zbn HR0_10.out HB.out) | (with_reducible refine Kd.zb7 ?_ _) | (with_reducible refine Kd.C_drewN ?_ _) | (with_reducible refine Kd.C_drew ?_))); (case side2 => exact HC0_10.out); rintro e w51 ⟨rfl, hb⟩; refine ⟨_, rfl, ?_⟩; have n0_ := zad.mk (zav (g := gb249) (o := .cells #[.int .i64 a0_0, .int .i64 a0_1, .int .i64 a0_2, .string a0_3, .int .i64 a0_4, .int .i64 a0_5, .int .i64 a0_6, .int .i64 a0_7, .string a0_8, .int .i64 a0_9, .slice A0_10 l0_10.length c0_10, .slice A0_11 l0_11.length c0_11, .bool a0_12, .string a0_13] 47 (0, 0)) (by (with_reducible repeat (first | refine zah ?_ _ | refine zaj ?_ | refine zai ?_ _)); exact BK249.out) hb); have n1_ := zad.mk (zav (g := gb250) (o := .cells #[.int .i64 0, .int .i64 0, .string (⟨#[]⟩ : ByteArray)] 38 (0, 0)) (by (with_reducible repeat (first | refine zah ?_ _ | refine zaj ?_ | refine zai ?_ _)); exact BK250.out) hb); have n2_ := zad.mk (zaq (by repeat (first | (with_reducible first | exact HB.out | apply zac | apply zaa | apply zab | refine zaf ?_ GE249.out | refine zaf ?_ GE250.out) | exact HB.out)) hb); clear BK249; clear BK250; clear HB; have BK249 := n0_; have BK250 := n1_; have HB := n2_; clear n0_ n1_ n2_; (try clear hb); (try clear hb2); (try clear hk); (try clear hi); obtain ⟨hcz52_0, hcz52_1, hcz52_2, hcz52_3, hcz52_4, hcz52_5, hcz52_6, hcz52_7, hcz52_8, hcz52_9, hcz52_10, hcz52_11, hcz52_12, hcz52_13⟩ := cq14 BK249.out; obtain ⟨hfz52_0, hfz52_1, hfz52_2, hfz52_3, hfz52_4, hfz52_5, hfz52_6, hfz52_7, hfz52_8, hfz52_9, hfz52_10, hfz52_11, hfz52_12, hfz52_13⟩ := fq14 BK249.out) | (go_at_call 35; (with_reducible refine (zbc.calls k2 a0_6 a0_7 a0_8 false _ A41.out).mono ?_); rintro e w53 ⟨rfl, hb⟩; have n0_ := zad.mk (zav (g := gb249) (o := .cells #[.int .i64 a0_0, .int .i64 a0_1, .int .i64 a0_2, .string a0_3, .int .i64 a0_4, .int .i64 a0_5, .int .i64 a0_6, .int .i64 a0_7, .string a0_8, .int .i64 a0_9, .slice A0_10 l0_10.length c0_10, .slice A0_11 l0_11.length c0_11, .bool a0_12, .string a0_13] 47 (0, 0)) (by (with_reducible repeat (first | refine zah ?_ _ | refine zaj ?_ | refine zai ?_ _)); exact BK249.out) hb); have n1_ := zad.mk (zav (g := gb250) (o := .cells #[.int .i64 0, .int .i64 0, .string (⟨#[]⟩ : ByteArray)] 38 (0, 0)) (by (with_reducible repeat (first | refine zah ?_ _ | refine zaj ?_ | refine zai ?_ _)); exact BK250.out) hb); have n2_ := zad.mk (zaq (by repeat (first | (with_reducible first | exact HB.out | apply zac | apply zaa | apply zab | refine zaf ?_ GE249.out | refine zaf ?_ GE250.out) | exact HB.out)) hb); clear BK249; clear BK250; clear HB; have BK249 := n0_; have BK250 := n1_; have HB := n2_; clear n0_ n1_ n2_; (try clear hb); (try clear hb2); (try clear hk); (try clear hi)))
          go_ret
          exact ⟨by first | rfl | (simp [zam, zal] <;> rfl) | (simp [*, zam, zal] <;> rfl), by repeat (first | (with_reducible first | exact HB.out | apply zac | apply zaa | apply zab | refine zaf ?_ GE249.out | refine zaf ?_ GE250.out) | exact HB.out)⟩
        ·replace c40 := Bool.eq_false_iff.mpr c40
         subst c40
         have H1 : (some false) = some r := by rw [if_neg (show ¬ (false = true) by decide)] at H; exact H
         clear H
         have H := H1
         clear H1
         obtain rfl := Option.some.inj H
         have hnb54 := NB249_250.out
         have hnc54 := NB250_249.out
         obtain ⟨hcz55_0, hcz55_1, hcz55_2, hcz55_3, hcz55_4, hcz55_5, hcz55_6, hcz55_7, hcz55_8, hcz55_9, hcz55_10, hcz55_11, hcz55_12, hcz55_13⟩ := cq14 BK249.out
         obtain ⟨hfz55_0, hfz55_1, hfz55_2, hfz55_3, hfz55_4, hfz55_5, hfz55_6, hfz55_7, hfz55_8, hfz55_9, hfz55_10, hfz55_11, hfz55_12, hfz55_13⟩ := fq14 BK249.out
         go_wp2_with (first | ((with_reducible refine za0 (f := 36) rfl ?_); refine zbq (some 53) rfl rfl Tryd.func36 (by kernel_rfl) rfl #[.int .i64 a0_5, .int .i64 a0_9, .slice A0_10 l0_10.length c0_10] rfl (by (try simp only [List.map_toArray, List.map_cons, List.map_nil]); first | done | rfl | (simp only [List.length_drop, List.length_take]; rfl)) ?_; (with_reducible refine (zau.calls k2 a0_5 a0_9 _ _ l0_10 false _ ?side1 ?side2 A39.out).mono ?_); (case side1 => repeat (first | exact (Kd.zbn HR0_10.out HB.out) | (with_reducible refine Kd.zb7 ?_ _) | (with_reducible refine Kd.C_drewN ?_ _) | (with_reducible refine Kd.C_drew ?_))); (case side2 => exact HC0_10.out); rintro e w56 ⟨rfl, hb⟩; refine ⟨_, rfl, ?_⟩; have n0_ := zad.mk (zav (g := gb249) (o := .cells #[.int .i64 a0_0, .int .i64 a0_1, .int .i64 a0_2, .string a0_3, .int .i64 a0_4, .int .i64 a0_5, .int .i64 a0_6, .int .i64 a0_7, .string a0_8, .int .i64 a0_9, .slice A0_10 l0_10.length c0_10, .slice A0_11 l0_11.length c0_11, .bool a0_12, .string a0_13] 47 (0, 0)) (by (with_reducible repeat (first | refine zah ?_ _ | refine zaj ?_ | refine zai ?_ _)); exact BK249.out) hb); have n1_ := zad.mk (zav (g := gb250) (o := .cells #[.int .i64 0, .int .i64 0, .string (⟨#[]⟩ : ByteArray)] 38 (0, 0)) (by (with_reducible repeat (first | refine zah ?_ _ | refine zaj ?_ | refine zai ?_ _)); exact BK250.out) hb); have n2_ := zad.mk (zaq (by repeat (first | (with_reducible first | exact HB.out | apply zac | apply zaa | apply zab | refine zaf ?_ GE249.out | refine zaf ?_ GE250.out) | exact HB.out)) hb); clear BK249; clear BK250; clear HB; have BK249 := n0_; have BK250 := n1_; have HB := n2_; clear n0_ n1_ n2_; (try clear hb); (try clear hb2); (try clear hk); (try clear hi)))
         go_ret
         exact ⟨by first | rfl | (simp [zam, zal] <;> rfl) | (simp [*, zam, zal] <;> rfl), by repeat (first | (with_reducible first | exact HB.out | apply zac | apply zaa | apply zab | refine zaf ?_ GE249.out | refine zaf ?_ GE250.out) | exact HB.out)⟩
       ·rw [if_neg c38] at H
        have c38b0 : (a0_4 == 1) = false := beq_eq_false_iff_ne.mpr c38
        have c38b1 : (a0_4 != 1) = true := bne_iff_ne.mpr c38
        have HC57 := zad.mk H
        clear H
        have hnb58 := NB249_250.out
        have hnc58 := NB250_249.out
        obtain ⟨hcz59_0, hcz59_1, hcz59_2, hcz59_3, hcz59_4, hcz59_5, hcz59_6, hcz59_7, hcz59_8, hcz59_9, hcz59_10, hcz59_11, hcz59_12, hcz59_13⟩ := cq14 BK249.out
        obtain ⟨hfz59_0, hfz59_1, hfz59_2, hfz59_3, hfz59_4, hfz59_5, hfz59_6, hfz59_7, hfz59_8, hfz59_9, hfz59_10, hfz59_11, hfz59_12, hfz59_13⟩ := fq14 BK249.out
        go_upto_region 11 with (fail)
        go_cut [94] (fun v94 wc => ∃ (kq : Nat) (x94_56 : Bool), v94 = .bool x94_56 ∧ zad (zan.j2 kq x94_56 a0_0 a0_1 a0_2 a0_3 a0_4 a0_5 a0_6 a0_7 a0_8 a0_9 l0_10 l0_11 a0_12 a0_13 = some r) ∧ zad (kq ≤ k2) ∧ zad (wc.heap[gb249]? = some (.cells #[.int .i64 a0_0, .int .i64 a0_1, .int .i64 a0_2, .string a0_3, .int .i64 a0_4, .int .i64 a0_5, .int .i64 a0_6, .int .i64 a0_7, .string a0_8, .int .i64 a0_9, (.slice A0_10 l0_10.length c0_10), (.slice A0_11 l0_11.length c0_11), .bool a0_12, .string a0_13] 47 (0, 0))) ∧ zad (wc.heap[gb250]? = some (.cells #[.int .i64 0, .int .i64 0, .string (⟨#[]⟩ : ByteArray)] 38 (0, 0))) ∧ zad (Below w.heap.size w wc))
        case first =>
         have H := HC57.out
         clear HC57
         by_cases c60 : a0_4 < 2
         ·rw [if_pos c60] at H
          have c60b0 : decide (a0_4 < 2) = true := decide_eq_true c60
          clear c60
          (first | rw [c60b0] | (simp only [i64_w]; rw [c60b0]) | skip)
          have H' := zad.mk H
          clear H
          have hnb61 := NB249_250.out
          have hnc61 := NB250_249.out
          obtain ⟨hcz62_0, hcz62_1, hcz62_2, hcz62_3, hcz62_4, hcz62_5, hcz62_6, hcz62_7, hcz62_8, hcz62_9, hcz62_10, hcz62_11, hcz62_12, hcz62_13⟩ := cq14 BK249.out
          obtain ⟨hfz62_0, hfz62_1, hfz62_2, hfz62_3, hfz62_4, hfz62_5, hfz62_6, hfz62_7, hfz62_8, hfz62_9, hfz62_10, hfz62_11, hfz62_12, hfz62_13⟩ := fq14 BK249.out
          go_wp2
          go_meet
          case rel => exact ⟨_, (true), (by first | rfl | (simp; done) | (simp [*]; done)), H', ⟨by have := HJ1.out; have := HK2.out; first | omega | exact Nat.le_refl _⟩, ⟨by (with_reducible repeat (first | refine zah ?_ _ | refine zaj ?_ | refine zai ?_ _)); exact BK249.out⟩, ⟨by (with_reducible repeat (first | refine zah ?_ _ | refine zaj ?_ | refine zai ?_ _)); exact BK250.out⟩, ⟨by repeat (first | (with_reducible first | exact HB.out | apply zac | apply zaa | apply zab | refine zaf ?_ GE249.out | refine zaf ?_ GE250.out) | exact HB.out)⟩⟩
         ·rw [if_neg c60] at H
          have c60b0 : decide (a0_4 < 2) = false := decide_eq_false c60
          clear c60
          (first | rw [c60b0] | (simp only [i64_w]; rw [c60b0]) | skip)
          by_cases c63 : a0_4 > 4
          ·rw [if_pos c63] at H
           have c63b0 : decide (4 < a0_4) = true := decide_eq_true c63
           clear c63
           have H' := zad.mk H
           clear H
           have hnb64 := NB249_250.out
           have hnc64 := NB250_249.out
           obtain ⟨hcz65_0, hcz65_1, hcz65_2, hcz65_3, hcz65_4, hcz65_5, hcz65_6, hcz65_7, hcz65_8, hcz65_9, hcz65_10, hcz65_11, hcz65_12, hcz65_13⟩ := cq14 BK249.out
           obtain ⟨hfz65_0, hfz65_1, hfz65_2, hfz65_3, hfz65_4, hfz65_5, hfz65_6, hfz65_7, hfz65_8, hfz65_9, hfz65_10, hfz65_11, hfz65_12, hfz65_13⟩ := fq14 BK249.out
           go_wp2
           go_meet
           case rel => exact ⟨_, (true), (by first | rfl | (simp; done) | (simp [*]; done)), H', ⟨by have := HJ1.out; have := HK2.out; first | omega | exact Nat.le_refl _⟩, ⟨by (with_reducible repeat (first | refine zah ?_ _ | refine zaj ?_ | refine zai ?_ _)); exact BK249.out⟩, ⟨by (with_reducible repeat (first | refine zah ?_ _ | refine zaj ?_ | refine zai ?_ _)); exact BK250.out⟩, ⟨by repeat (first | (with_reducible first | exact HB.out | apply zac | apply zaa | apply zab | refine zaf ?_ GE249.out | refine zaf ?_ GE250.out) | exact HB.out)⟩⟩
          ·rw [if_neg c63] at H
           have c63b0 : decide (4 < a0_4) = false := decide_eq_false c63
           clear c63
           by_cases c66 : a0_5 = 0
           ·rw [if_pos c66] at H
            have c66b0 : (a0_5 == 0) = true := beq_iff_eq.mpr c66
            have c66b1 : (a0_5 != 0) = false := bne_eq_false_iff_eq.mpr c66
            clear c66
            by_cases c67 : a0_9 = 0
            ·rw [if_pos c67] at H
             have c67b0 : (a0_9 == 0) = true := beq_iff_eq.mpr c67
             have c67b1 : (a0_9 != 0) = false := bne_eq_false_iff_eq.mpr c67
             clear c67
             by_cases c68 : (!(a0_6 == 0) || (!(a0_7 == 0) || (!(a0_8.toList == (⟨#[]⟩ : ByteArray).toList)))) = true
             ·rw [if_pos c68] at H
              obtain ⟨bt, hbt⟩ : ∃ bt : Bool, (a0_6 == 0 && (a0_7 == 0 && a0_8.toList.isEmpty)) = bt := ⟨_, rfl⟩
              have hbv : bt = false := by rw [← hbt]; revert c68; rw [show (⟨#[]⟩ : ByteArray).toList = [] from by first | (simp; done) | kernel_rfl]; cases (a0_6 == 0) <;> cases (a0_7 == 0) <;> cases a0_8.toList <;> simp
              clear c68
              have H' := zad.mk H
              clear H
              have hnb69 := NB249_250.out
              have hnc69 := NB250_249.out
              obtain ⟨hcz70_0, hcz70_1, hcz70_2, hcz70_3, hcz70_4, hcz70_5, hcz70_6, hcz70_7, hcz70_8, hcz70_9, hcz70_10, hcz70_11, hcz70_12, hcz70_13⟩ := cq14 BK249.out
              obtain ⟨hfz70_0, hfz70_1, hfz70_2, hfz70_3, hfz70_4, hfz70_5, hfz70_6, hfz70_7, hfz70_8, hfz70_9, hfz70_10, hfz70_11, hfz70_12, hfz70_13⟩ := fq14 BK249.out
              obtain ⟨hcz71_0, hcz71_1, hcz71_2⟩ := cq3 BK250.out
              obtain ⟨hfz71_0, hfz71_1, hfz71_2⟩ := fq3 BK250.out
              go_wp2
              go_meet
              case rel => exact ⟨_, (true), (by first | rfl | (simp; done) | (simp [*]; done)), H', ⟨by have := HJ1.out; have := HK2.out; first | omega | exact Nat.le_refl _⟩, ⟨by (with_reducible repeat (first | refine zah ?_ _ | refine zaj ?_ | refine zai ?_ _)); exact BK249.out⟩, ⟨by (with_reducible repeat (first | refine zah ?_ _ | refine zaj ?_ | refine zai ?_ _)); exact BK250.out⟩, ⟨by repeat (first | (with_reducible first | exact HB.out | apply zac | apply zaa | apply zab | refine zaf ?_ GE249.out | refine zaf ?_ GE250.out) | exact HB.out)⟩⟩
             ·rw [if_neg c68] at H
              obtain ⟨bt, hbt⟩ : ∃ bt : Bool, (a0_6 == 0 && (a0_7 == 0 && a0_8.toList.isEmpty)) = bt := ⟨_, rfl⟩
              have hbv : bt = true := by rw [← hbt]; revert c68; rw [show (⟨#[]⟩ : ByteArray).toList = [] from by first | (simp; done) | kernel_rfl]; cases (a0_6 == 0) <;> cases (a0_7 == 0) <;> cases a0_8.toList <;> simp
              clear c68
              have H' := zad.mk H
              clear H
              have hnb72 := NB249_250.out
              have hnc72 := NB250_249.out
              obtain ⟨hcz73_0, hcz73_1, hcz73_2, hcz73_3, hcz73_4, hcz73_5, hcz73_6, hcz73_7, hcz73_8, hcz73_9, hcz73_10, hcz73_11, hcz73_12, hcz73_13⟩ := cq14 BK249.out
              obtain ⟨hfz73_0, hfz73_1, hfz73_2, hfz73_3, hfz73_4, hfz73_5, hfz73_6, hfz73_7, hfz73_8, hfz73_9, hfz73_10, hfz73_11, hfz73_12, hfz73_13⟩ := fq14 BK249.out
              obtain ⟨hcz74_0, hcz74_1, hcz74_2⟩ := cq3 BK250.out
              obtain ⟨hfz74_0, hfz74_1, hfz74_2⟩ := fq3 BK250.out
              go_wp2
              go_meet
              case rel => exact ⟨_, (decide ((l0_10.length : Int) > 0)), (by first | rfl | (simp; done) | (simp [*]; done)), H', ⟨by have := HJ1.out; have := HK2.out; first | omega | exact Nat.le_refl _⟩, ⟨by (with_reducible repeat (first | refine zah ?_ _ | refine zaj ?_ | refine zai ?_ _)); exact BK249.out⟩, ⟨by (with_reducible repeat (first | refine zah ?_ _ | refine zaj ?_ | refine zai ?_ _)); exact BK250.out⟩, ⟨by repeat (first | (with_reducible first | exact HB.out | apply zac | apply zaa | apply zab | refine zaf ?_ GE249.out | refine zaf ?_ GE250.out) | exact HB.out)⟩⟩
            ·rw [if_neg c67] at H
             have c67b0 : (a0_9 == 0) = false := beq_eq_false_iff_ne.mpr c67
             have c67b1 : (a0_9 != 0) = true := bne_iff_ne.mpr c67
             have H' := zad.mk H
             clear H
             have hnb75 := NB249_250.out
             have hnc75 := NB250_249.out
             obtain ⟨hcz76_0, hcz76_1, hcz76_2, hcz76_3, hcz76_4, hcz76_5, hcz76_6, hcz76_7, hcz76_8, hcz76_9, hcz76_10, hcz76_11, hcz76_12, hcz76_13⟩ := cq14 BK249.out
             obtain ⟨hfz76_0, hfz76_1, hfz76_2, hfz76_3, hfz76_4, hfz76_5, hfz76_6, hfz76_7, hfz76_8, hfz76_9, hfz76_10, hfz76_11, hfz76_12, hfz76_13⟩ := fq14 BK249.out
             go_wp2
             go_meet
             case rel => exact ⟨_, (true), (by first | rfl | (simp; done) | (simp [*]; done)), H', ⟨by have := HJ1.out; have := HK2.out; first | omega | exact Nat.le_refl _⟩, ⟨by (with_reducible repeat (first | refine zah ?_ _ | refine zaj ?_ | refine zai ?_ _)); exact BK249.out⟩, ⟨by (with_reducible repeat (first | refine zah ?_ _ | refine zaj ?_ | refine zai ?_ _)); exact BK250.out⟩, ⟨by repeat (first | (with_reducible first | exact HB.out | apply zac | apply zaa | apply zab | refine zaf ?_ GE249.out | refine zaf ?_ GE250.out) | exact HB.out)⟩⟩
           ·rw [if_neg c66] at H
            have c66b0 : (a0_5 == 0) = false := beq_eq_false_iff_ne.mpr c66
            have c66b1 : (a0_5 != 0) = true := bne_iff_ne.mpr c66
            have H' := zad.mk H
            clear H
            have hnb77 := NB249_250.out
            have hnc77 := NB250_249.out
            obtain ⟨hcz78_0, hcz78_1, hcz78_2, hcz78_3, hcz78_4, hcz78_5, hcz78_6, hcz78_7, hcz78_8, hcz78_9, hcz78_10, hcz78_11, hcz78_12, hcz78_13⟩ := cq14 BK249.out
            obtain ⟨hfz78_0, hfz78_1, hfz78_2, hfz78_3, hfz78_4, hfz78_5, hfz78_6, hfz78_7, hfz78_8, hfz78_9, hfz78_10, hfz78_11, hfz78_12, hfz78_13⟩ := fq14 BK249.out
            go_wp2
            go_meet
            case rel => exact ⟨_, (true), (by first | rfl | (simp; done) | (simp [*]; done)), H', ⟨by have := HJ1.out; have := HK2.out; first | omega | exact Nat.le_refl _⟩, ⟨by (with_reducible repeat (first | refine zah ?_ _ | refine zaj ?_ | refine zai ?_ _)); exact BK249.out⟩, ⟨by (with_reducible repeat (first | refine zah ?_ _ | refine zaj ?_ | refine zai ?_ _)); exact BK250.out⟩, ⟨by repeat (first | (with_reducible first | exact HB.out | apply zac | apply zaa | apply zab | refine zaf ?_ GE249.out | refine zaf ?_ GE250.out) | exact HB.out)⟩⟩
        case rest =>
         clear HC57
         try clear p2 p2
         try clear c3
         try clear p3
         try clear q3
         try clear hx3
         try clear c4
         try clear c5
         try clear c6
         try clear p6
         try clear c7
         try clear c30
         try clear c30b0
         try clear c31
         try clear c31b0
         try clear p32 p32
         try clear q32 q32
         try clear hx32
         try clear c33
         try clear c33b0
         try clear c33b1
         try clear c34
         try clear c36
         try clear c38
         try clear c38b0
         try clear c38b1
         try clear c40
         try clear c42
         try clear c43
         try clear c49
         try clear c54
         try clear c58
         try clear c60
         try clear c60b0
         try clear c61
         try clear c63
         try clear c63b0
         try clear c64
         try clear p64
         try clear c66
         try clear c66b0
         try clear c66b1
         try clear c67
         try clear c67b0
         try clear c67b1
         try clear c68
         try clear c68b0
         try clear c69
         try clear c72
         try clear c75
         try clear c77
         try clear hcz35_0 hcz35_1 hcz35_10 hcz35_11 hcz35_12 hcz35_13 hcz35_2 hcz35_3 hcz35_4 hcz35_5 hcz35_6 hcz35_7 hcz35_8 hcz35_9
         try clear hcz37_0 hcz37_1 hcz37_10 hcz37_11 hcz37_12 hcz37_13 hcz37_2 hcz37_3 hcz37_4 hcz37_5 hcz37_6 hcz37_7 hcz37_8 hcz37_9
         try clear hcz44_0 hcz44_1 hcz44_10 hcz44_11 hcz44_12 hcz44_13 hcz44_2 hcz44_3 hcz44_4 hcz44_5 hcz44_6 hcz44_7 hcz44_8 hcz44_9
         try clear hcz46_0 hcz46_1 hcz46_10 hcz46_11 hcz46_12 hcz46_13 hcz46_2 hcz46_3 hcz46_4 hcz46_5 hcz46_6 hcz46_7 hcz46_8 hcz46_9
         try clear hcz48_0 hcz48_1 hcz48_10 hcz48_11 hcz48_12 hcz48_13 hcz48_2 hcz48_3 hcz48_4 hcz48_5 hcz48_6 hcz48_7 hcz48_8 hcz48_9
         try clear hcz50_0 hcz50_1 hcz50_10 hcz50_11 hcz50_12 hcz50_13 hcz50_2 hcz50_3 hcz50_4 hcz50_5 hcz50_6 hcz50_7 hcz50_8 hcz50_9
         try clear hcz52_0 hcz52_1 hcz52_10 hcz52_11 hcz52_12 hcz52_13 hcz52_2 hcz52_3 hcz52_4 hcz52_5 hcz52_6 hcz52_7 hcz52_8 hcz52_9
         try clear hcz55_0 hcz55_1 hcz55_10 hcz55_11 hcz55_12 hcz55_13 hcz55_2 hcz55_3 hcz55_4 hcz55_5 hcz55_6 hcz55_7 hcz55_8 hcz55_9
         try clear hcz59_0 hcz59_1 hcz59_10 hcz59_11 hcz59_12 hcz59_13 hcz59_2 hcz59_3 hcz59_4 hcz59_5 hcz59_6 hcz59_7 hcz59_8 hcz59_9
         try clear hcz62_0 hcz62_1 hcz62_10 hcz62_11 hcz62_12 hcz62_13 hcz62_2 hcz62_3 hcz62_4 hcz62_5 hcz62_6 hcz62_7 hcz62_8 hcz62_9
         try clear hcz65_0 hcz65_1 hcz65_10 hcz65_11 hcz65_12 hcz65_13 hcz65_2 hcz65_3 hcz65_4 hcz65_5 hcz65_6 hcz65_7 hcz65_8 hcz65_9
         try clear hcz70_0 hcz70_1 hcz70_10 hcz70_11 hcz70_12 hcz70_13 hcz70_2 hcz70_3 hcz70_4 hcz70_5 hcz70_6 hcz70_7 hcz70_8 hcz70_9
         try clear hcz71_0 hcz71_1 hcz71_2
         try clear hcz73_0 hcz73_1 hcz73_10 hcz73_11 hcz73_12 hcz73_13 hcz73_2 hcz73_3 hcz73_4 hcz73_5 hcz73_6 hcz73_7 hcz73_8 hcz73_9
         try clear hcz74_0 hcz74_1 hcz74_2
         try clear hcz76_0 hcz76_1 hcz76_10 hcz76_11 hcz76_12 hcz76_13 hcz76_2 hcz76_3 hcz76_4 hcz76_5 hcz76_6 hcz76_7 hcz76_8 hcz76_9
         try clear hcz78_0 hcz78_1 hcz78_10 hcz78_11 hcz78_12 hcz78_13 hcz78_2 hcz78_3 hcz78_4 hcz78_5 hcz78_6 hcz78_7 hcz78_8 hcz78_9
         try clear hfz23_8 hfz23_9
         try clear hfz25_0 hfz25_1 hfz25_10 hfz25_11 hfz25_12 hfz25_13 hfz25_2 hfz25_3 hfz25_4 hfz25_5 hfz25_6 hfz25_7 hfz25_8 hfz25_9
         try clear hfz27_0 hfz27_1 hfz27_10 hfz27_11 hfz27_12 hfz27_13 hfz27_2 hfz27_3 hfz27_4 hfz27_5 hfz27_6 hfz27_7 hfz27_8 hfz27_9
         try clear hfz35_0 hfz35_1 hfz35_10 hfz35_11 hfz35_12 hfz35_13 hfz35_2 hfz35_3 hfz35_4 hfz35_5 hfz35_6 hfz35_7 hfz35_8 hfz35_9
         try clear hfz37_0 hfz37_1 hfz37_10 hfz37_11 hfz37_12 hfz37_13 hfz37_2 hfz37_3 hfz37_4 hfz37_5 hfz37_6 hfz37_7 hfz37_8 hfz37_9
         try clear hfz44_0 hfz44_1 hfz44_10 hfz44_11 hfz44_12 hfz44_13 hfz44_2 hfz44_3 hfz44_4 hfz44_5 hfz44_6 hfz44_7 hfz44_8 hfz44_9
         try clear hfz46_0 hfz46_1 hfz46_10 hfz46_11 hfz46_12 hfz46_13 hfz46_2 hfz46_3 hfz46_4 hfz46_5 hfz46_6 hfz46_7 hfz46_8 hfz46_9
         try clear hfz48_0 hfz48_1 hfz48_10 hfz48_11 hfz48_12 hfz48_13 hfz48_2 hfz48_3 hfz48_4 hfz48_5 hfz48_6 hfz48_7 hfz48_8 hfz48_9
         try clear hfz50_0 hfz50_1 hfz50_10 hfz50_11 hfz50_12 hfz50_13 hfz50_2 hfz50_3 hfz50_4 hfz50_5 hfz50_6 hfz50_7 hfz50_8 hfz50_9
         try clear hfz52_0 hfz52_1 hfz52_10 hfz52_11 hfz52_12 hfz52_13 hfz52_2 hfz52_3 hfz52_4 hfz52_5 hfz52_6 hfz52_7 hfz52_8 hfz52_9
         try clear hfz55_0 hfz55_1 hfz55_10 hfz55_11 hfz55_12 hfz55_13 hfz55_2 hfz55_3 hfz55_4 hfz55_5 hfz55_6 hfz55_7 hfz55_8 hfz55_9
         try clear hfz59_0 hfz59_1 hfz59_10 hfz59_11 hfz59_12 hfz59_13 hfz59_2 hfz59_3 hfz59_4 hfz59_5 hfz59_6 hfz59_7 hfz59_8 hfz59_9
         try clear hfz62_0 hfz62_1 hfz62_10 hfz62_11 hfz62_12 hfz62_13 hfz62_2 hfz62_3 hfz62_4 hfz62_5 hfz62_6 hfz62_7 hfz62_8 hfz62_9
         try clear hfz65_0 hfz65_1 hfz65_10 hfz65_11 hfz65_12 hfz65_13 hfz65_2 hfz65_3 hfz65_4 hfz65_5 hfz65_6 hfz65_7 hfz65_8 hfz65_9
         try clear hfz6_0 hfz6_1 hfz6_2
         try clear hfz70_0 hfz70_1 hfz70_10 hfz70_11 hfz70_12 hfz70_13 hfz70_2 hfz70_3 hfz70_4 hfz70_5 hfz70_6 hfz70_7 hfz70_8 hfz70_9
         try clear hfz71_0 hfz71_1 hfz71_2
         try clear hfz73_0 hfz73_1 hfz73_10 hfz73_11 hfz73_12 hfz73_13 hfz73_2 hfz73_3 hfz73_4 hfz73_5 hfz73_6 hfz73_7 hfz73_8 hfz73_9
         try clear hfz74_0 hfz74_1 hfz74_2
         try clear hfz76_0 hfz76_1 hfz76_10 hfz76_11 hfz76_12 hfz76_13 hfz76_2 hfz76_3 hfz76_4 hfz76_5 hfz76_6 hfz76_7 hfz76_8 hfz76_9
         try clear hfz78_0 hfz78_1 hfz78_10 hfz78_11 hfz78_12 hfz78_13 hfz78_2 hfz78_3 hfz78_4 hfz78_5 hfz78_6 hfz78_7 hfz78_8 hfz78_9
         try clear hfz9_0 hfz9_1 hfz9_10 hfz9_11 hfz9_12 hfz9_13 hfz9_2 hfz9_3 hfz9_4 hfz9_5 hfz9_6 hfz9_7 hfz9_8 hfz9_9
         obtain ⟨kq, x94_56, rfl, HA, HJ56, BK249, BK250, HB⟩ := hcut
         cases kq with
         | zero => exact absurd HA.out (by simp [zan.j2])
         | succ kj56 =>
          have H := HA.out
          clear HA
          simp only [zan.j2] at H
          by_cases c79 : x94_56 = true
          ·subst c79
           have H1 : (some false) = some r := by rw [if_pos rfl] at H; exact H
           clear H
           have H := H1
           clear H1
           obtain rfl := Option.some.inj H
           go_wp2
           go_ret
           exact ⟨by first | rfl | (simp [zam, zal] <;> rfl) | (simp [*, zam, zal] <;> rfl), by repeat (first | (with_reducible first | exact HB.out | apply zac | apply zaa | apply zab | refine zaf ?_ GE249.out | refine zaf ?_ GE250.out) | exact HB.out)⟩
          ·replace c79 := Bool.eq_false_iff.mpr c79
           subst c79
           have H1 : (zan.l1 kj56 0 a0_0 a0_1 a0_2 a0_3 a0_4 a0_5 a0_6 a0_7 a0_8 a0_9 l0_10 l0_11 a0_12 a0_13) = some r := by rw [if_neg (show ¬ (false = true) by decide)] at H; exact H
           clear H
           have H := H1
           clear H1
           have H' := zad.mk H
           clear H
           go_wp2
           go_loopg [5] kj56 (fun kq v5 w' => ∃ (x5_4 : Int), v5 = .int .i64 x5_4 ∧ zad (zan.l1 kq x5_4 a0_0 a0_1 a0_2 a0_3 a0_4 a0_5 a0_6 a0_7 a0_8 a0_9 l0_10 l0_11 a0_12 a0_13 = some r) ∧ zad (kq ≤ kj56) ∧ zad (w'.heap[gb249]? = some (.cells #[.int .i64 a0_0, .int .i64 a0_1, .int .i64 a0_2, .string a0_3, .int .i64 a0_4, .int .i64 a0_5, .int .i64 a0_6, .int .i64 a0_7, .string a0_8, .int .i64 a0_9, (.slice A0_10 l0_10.length c0_10), (.slice A0_11 l0_11.length c0_11), .bool a0_12, .string a0_13] 47 (0, 0))) ∧ zad (w'.heap[gb250]? = some (.cells #[.int .i64 0, .int .i64 0, .string (⟨#[]⟩ : ByteArray)] 38 (0, 0))) ∧ zad (Below w.heap.size w w'))
           case atStart => exact ⟨(0), (by first | rfl | (simp; done) | (simp [*]; done)), H', ⟨Nat.le_refl _⟩, ⟨by (with_reducible repeat (first | refine zah ?_ _ | refine zaj ?_ | refine zai ?_ _)); exact BK249.out⟩, ⟨by (with_reducible repeat (first | refine zah ?_ _ | refine zaj ?_ | refine zai ?_ _)); exact BK250.out⟩, ⟨by repeat (first | (with_reducible first | exact HB.out | apply zac | apply zaa | apply zab | refine zaf ?_ GE249.out | refine zaf ?_ GE250.out) | exact HB.out)⟩⟩
           case round =>
            clear H'
            try clear p2 p2
            try clear c3
            try clear p3 p3
            try clear q3 q3
            try clear hx3
            try clear c4
            try clear c5
            try clear c6
            try clear p6 p6
            try clear c7
            try clear c30
            try clear c30b0
            try clear c31
            try clear c31b0
            try clear p32 p32
            try clear q32 q32
            try clear hx32
            try clear c33
            try clear c33b0
            try clear c33b1
            try clear c34
            try clear c36
            try clear c38
            try clear c38b0
            try clear c38b1
            try clear c40
            try clear c42
            try clear c43
            try clear c49
            try clear c54
            try clear c58
            try clear c60
            try clear c60b0
            try clear c61
            try clear c63
            try clear c63b0
            try clear c64
            try clear p64 p64
            try clear c66
            try clear c66b0
            try clear c66b1
            try clear c67
            try clear c67b0
            try clear c67b1
            try clear c68
            try clear c68b0
            try clear c69
            try clear c72
            try clear c75
            try clear c77
            try clear c79
            try clear hcz35_0 hcz35_1 hcz35_10 hcz35_11 hcz35_12 hcz35_13 hcz35_2 hcz35_3 hcz35_4 hcz35_5 hcz35_6 hcz35_7 hcz35_8 hcz35_9
            try clear hcz37_0 hcz37_1 hcz37_10 hcz37_11 hcz37_12 hcz37_13 hcz37_2 hcz37_3 hcz37_4 hcz37_5 hcz37_6 hcz37_7 hcz37_8 hcz37_9
            try clear hcz44_0 hcz44_1 hcz44_10 hcz44_11 hcz44_12 hcz44_13 hcz44_2 hcz44_3 hcz44_4 hcz44_5 hcz44_6 hcz44_7 hcz44_8 hcz44_9
            try clear hcz46_0 hcz46_1 hcz46_10 hcz46_11 hcz46_12 hcz46_13 hcz46_2 hcz46_3 hcz46_4 hcz46_5 hcz46_6 hcz46_7 hcz46_8 hcz46_9
            try clear hcz48_0 hcz48_1 hcz48_10 hcz48_11 hcz48_12 hcz48_13 hcz48_2 hcz48_3 hcz48_4 hcz48_5 hcz48_6 hcz48_7 hcz48_8 hcz48_9
            try clear hcz50_0 hcz50_1 hcz50_10 hcz50_11 hcz50_12 hcz50_13 hcz50_2 hcz50_3 hcz50_4 hcz50_5 hcz50_6 hcz50_7 hcz50_8 hcz50_9
            try clear hcz52_0 hcz52_1 hcz52_10 hcz52_11 hcz52_12 hcz52_13 hcz52_2 hcz52_3 hcz52_4 hcz52_5 hcz52_6 hcz52_7 hcz52_8 hcz52_9
            try clear hcz55_0 hcz55_1 hcz55_10 hcz55_11 hcz55_12 hcz55_13 hcz55_2 hcz55_3 hcz55_4 hcz55_5 hcz55_6 hcz55_7 hcz55_8 hcz55_9
            try clear hcz59_0 hcz59_1 hcz59_10 hcz59_11 hcz59_12 hcz59_13 hcz59_2 hcz59_3 hcz59_4 hcz59_5 hcz59_6 hcz59_7 hcz59_8 hcz59_9
            try clear hcz62_0 hcz62_1 hcz62_10 hcz62_11 hcz62_12 hcz62_13 hcz62_2 hcz62_3 hcz62_4 hcz62_5 hcz62_6 hcz62_7 hcz62_8 hcz62_9
            try clear hcz65_0 hcz65_1 hcz65_10 hcz65_11 hcz65_12 hcz65_13 hcz65_2 hcz65_3 hcz65_4 hcz65_5 hcz65_6 hcz65_7 hcz65_8 hcz65_9
            try clear hcz70_0 hcz70_1 hcz70_10 hcz70_11 hcz70_12 hcz70_13 hcz70_2 hcz70_3 hcz70_4 hcz70_5 hcz70_6 hcz70_7 hcz70_8 hcz70_9
            try clear hcz71_0 hcz71_1 hcz71_2
            try clear hcz73_0 hcz73_1 hcz73_10 hcz73_11 hcz73_12 hcz73_13 hcz73_2 hcz73_3 hcz73_4 hcz73_5 hcz73_6 hcz73_7 hcz73_8 hcz73_9
            try clear hcz74_0 hcz74_1 hcz74_2
            try clear hcz76_0 hcz76_1 hcz76_10 hcz76_11 hcz76_12 hcz76_13 hcz76_2 hcz76_3 hcz76_4 hcz76_5 hcz76_6 hcz76_7 hcz76_8 hcz76_9
            try clear hcz78_0 hcz78_1 hcz78_10 hcz78_11 hcz78_12 hcz78_13 hcz78_2 hcz78_3 hcz78_4 hcz78_5 hcz78_6 hcz78_7 hcz78_8 hcz78_9
            try clear hfz23_8 hfz23_9
            try clear hfz25_0 hfz25_1 hfz25_10 hfz25_11 hfz25_12 hfz25_13 hfz25_2 hfz25_3 hfz25_4 hfz25_5 hfz25_6 hfz25_7 hfz25_8 hfz25_9
            try clear hfz27_0 hfz27_1 hfz27_10 hfz27_11 hfz27_12 hfz27_13 hfz27_2 hfz27_3 hfz27_4 hfz27_5 hfz27_6 hfz27_7 hfz27_8 hfz27_9
            try clear hfz35_0 hfz35_1 hfz35_10 hfz35_11 hfz35_12 hfz35_13 hfz35_2 hfz35_3 hfz35_4 hfz35_5 hfz35_6 hfz35_7 hfz35_8 hfz35_9
            try clear hfz37_0 hfz37_1 hfz37_10 hfz37_11 hfz37_12 hfz37_13 hfz37_2 hfz37_3 hfz37_4 hfz37_5 hfz37_6 hfz37_7 hfz37_8 hfz37_9
            try clear hfz44_0 hfz44_1 hfz44_10 hfz44_11 hfz44_12 hfz44_13 hfz44_2 hfz44_3 hfz44_4 hfz44_5 hfz44_6 hfz44_7 hfz44_8 hfz44_9
            try clear hfz46_0 hfz46_1 hfz46_10 hfz46_11 hfz46_12 hfz46_13 hfz46_2 hfz46_3 hfz46_4 hfz46_5 hfz46_6 hfz46_7 hfz46_8 hfz46_9
            try clear hfz48_0 hfz48_1 hfz48_10 hfz48_11 hfz48_12 hfz48_13 hfz48_2 hfz48_3 hfz48_4 hfz48_5 hfz48_6 hfz48_7 hfz48_8 hfz48_9
            try clear hfz50_0 hfz50_1 hfz50_10 hfz50_11 hfz50_12 hfz50_13 hfz50_2 hfz50_3 hfz50_4 hfz50_5 hfz50_6 hfz50_7 hfz50_8 hfz50_9
            try clear hfz52_0 hfz52_1 hfz52_10 hfz52_11 hfz52_12 hfz52_13 hfz52_2 hfz52_3 hfz52_4 hfz52_5 hfz52_6 hfz52_7 hfz52_8 hfz52_9
            try clear hfz55_0 hfz55_1 hfz55_10 hfz55_11 hfz55_12 hfz55_13 hfz55_2 hfz55_3 hfz55_4 hfz55_5 hfz55_6 hfz55_7 hfz55_8 hfz55_9
            try clear hfz59_0 hfz59_1 hfz59_10 hfz59_11 hfz59_12 hfz59_13 hfz59_2 hfz59_3 hfz59_4 hfz59_5 hfz59_6 hfz59_7 hfz59_8 hfz59_9
            try clear hfz62_0 hfz62_1 hfz62_10 hfz62_11 hfz62_12 hfz62_13 hfz62_2 hfz62_3 hfz62_4 hfz62_5 hfz62_6 hfz62_7 hfz62_8 hfz62_9
            try clear hfz65_0 hfz65_1 hfz65_10 hfz65_11 hfz65_12 hfz65_13 hfz65_2 hfz65_3 hfz65_4 hfz65_5 hfz65_6 hfz65_7 hfz65_8 hfz65_9
            try clear hfz6_0 hfz6_1 hfz6_2
            try clear hfz70_0 hfz70_1 hfz70_10 hfz70_11 hfz70_12 hfz70_13 hfz70_2 hfz70_3 hfz70_4 hfz70_5 hfz70_6 hfz70_7 hfz70_8 hfz70_9
            try clear hfz71_0 hfz71_1 hfz71_2
            try clear hfz73_0 hfz73_1 hfz73_10 hfz73_11 hfz73_12 hfz73_13 hfz73_2 hfz73_3 hfz73_4 hfz73_5 hfz73_6 hfz73_7 hfz73_8 hfz73_9
            try clear hfz74_0 hfz74_1 hfz74_2
            try clear hfz76_0 hfz76_1 hfz76_10 hfz76_11 hfz76_12 hfz76_13 hfz76_2 hfz76_3 hfz76_4 hfz76_5 hfz76_6 hfz76_7 hfz76_8 hfz76_9
            try clear hfz78_0 hfz78_1 hfz78_10 hfz78_11 hfz78_12 hfz78_13 hfz78_2 hfz78_3 hfz78_4 hfz78_5 hfz78_6 hfz78_7 hfz78_8 hfz78_9
            try clear hfz9_0 hfz9_1 hfz9_10 hfz9_11 hfz9_12 hfz9_13 hfz9_2 hfz9_3 hfz9_4 hfz9_5 hfz9_6 hfz9_7 hfz9_8 hfz9_9
            obtain ⟨x5_4, rfl, HA, HK4, BK249, BK250, HB⟩ := hrel
            cases gk with
            | zero => exact absurd HA.out (by simp [zan.l1])
            | succ k4 =>
             have H := HA.out
             clear HA
             simp only [zan.l1] at H
             by_cases c80 : x5_4 < (l0_11.length : Int)
             ·rw [if_pos c80] at H
              have c80b0 : decide (x5_4 < (l0_11.length : Int)) = true := decide_eq_true c80
              clear c80
              by_cases c81 : 0 ≤ x5_4
              ·rw [if_pos c81] at H
               have c81b0 : decide (0 ≤ x5_4) = true := decide_eq_true c81
               clear c81
               replace H := Option.bind_eq_some_iff.mp H
               obtain ⟨t255, A820, H⟩ := H
               replace H : (if t255 = true then (zan.l1 k4 (wrap64 (x5_4 + 1)) a0_0 a0_1 a0_2 a0_3 a0_4 a0_5 a0_6 a0_7 a0_8 a0_9 l0_10 l0_11 a0_12 a0_13) else (some false)) = some r := H
               have A82 := zad.mk A820
               clear A820
               by_cases c83 : t255 = true
               ·subst c83
                have H1 : (zan.l1 k4 (wrap64 (x5_4 + 1)) a0_0 a0_1 a0_2 a0_3 a0_4 a0_5 a0_6 a0_7 a0_8 a0_9 l0_10 l0_11 a0_12 a0_13) = some r := by rw [if_pos rfl] at H; exact H
                clear H
                have H := H1
                clear H1
                have H' := zad.mk H
                clear H
                have hnb84 := NB249_250.out
                have hnc84 := NB250_249.out
                obtain ⟨hcz85_0, hcz85_1, hcz85_2, hcz85_3, hcz85_4, hcz85_5, hcz85_6, hcz85_7, hcz85_8, hcz85_9, hcz85_10, hcz85_11, hcz85_12, hcz85_13⟩ := cq14 BK249.out
                obtain ⟨hfz85_0, hfz85_1, hfz85_2, hfz85_3, hfz85_4, hfz85_5, hfz85_6, hfz85_7, hfz85_8, hfz85_9, hfz85_10, hfz85_11, hfz85_12, hfz85_13⟩ := fq14 BK249.out
                have p254 : 0 ≤ (x5_4 : Int) := of_decide_eq_true (by first | (with_reducible assumption) | assumption)
                have q254 : x5_4 < (l0_11.length : Int) := of_decide_eq_true (by first | (with_reducible assumption) | assumption)
                obtain ⟨ad254, e254, hx254_0, hx254_1, hx254_2⟩ := zce HR0_11.out x5_4 p254 q254
                cases e254
                replace hx254_0 := (HB.out.cell (World.block_lt_of_cell? w _ hx254_0)).trans hx254_0
                replace hx254_1 := (HB.out.cell (World.block_lt_of_cell? w _ hx254_1)).trans hx254_1
                replace hx254_2 := (HB.out.cell (World.block_lt_of_cell? w _ hx254_2)).trans hx254_2
                replace p254 := eq_true p254
                replace q254 := eq_true q254
                go_wp2_with (first | ((with_reducible refine za0 (f := 37) rfl ?_); refine zbq (some 107) rfl rfl Tryd.func37 (by kernel_rfl) rfl #[.agg #[.int .i64 ((zap l0_11 x5_4).f0), .int .i64 ((zap l0_11 x5_4).f1), .string ((zap l0_11 x5_4).f2)]] rfl (by (try simp only [List.map_toArray, List.map_cons, List.map_nil]); first | done | rfl | (simp only [List.length_drop, List.length_take]; rfl)) ?_; (with_reducible refine (zaw.calls k4 ((zap l0_11 x5_4).f0) ((zap l0_11 x5_4).f1) ((zap l0_11 x5_4).f2) true _ A82.out).mono ?_); rintro e w86 ⟨rfl, hb⟩; refine ⟨_, rfl, ?_⟩; have n0_ := zad.mk (zav (g := gb249) (o := .cells #[.int .i64 a0_0, .int .i64 a0_1, .int .i64 a0_2, .string a0_3, .int .i64 a0_4, .int .i64 a0_5, .int .i64 a0_6, .int .i64 a0_7, .string a0_8, .int .i64 a0_9, .slice A0_10 l0_10.length c0_10, .slice (some ad254) l0_11.length c0_11, .bool a0_12, .string a0_13] 47 (0, 0)) (by (with_reducible repeat (first | refine zah ?_ _ | refine zaj ?_ | refine zai ?_ _)); exact BK249.out) hb); have n1_ := zad.mk (zav (g := gb250) (o := .cells #[.int .i64 0, .int .i64 0, .string (⟨#[]⟩ : ByteArray)] 38 (0, 0)) (by (with_reducible repeat (first | refine zah ?_ _ | refine zaj ?_ | refine zai ?_ _)); exact BK250.out) hb); have n2_ := zad.mk (zaq (by repeat (first | (with_reducible first | exact HB.out | apply zac | apply zaa | apply zab | refine zaf ?_ GE249.out | refine zaf ?_ GE250.out) | exact HB.out)) hb); clear BK249; clear BK250; clear HB; have BK249 := n0_; have BK250 := n1_; have HB := n2_; clear n0_ n1_ n2_; (try clear hb); (try clear hb2); (try clear hk); (try clear hi)))
                go_roundg k4
                case measure => have := HJ1.out; have := HK2.out; have := HJ56.out; have := HK4.out; omega
                case rel => exact ⟨(wrap64 (x5_4 + 1)), (by first | rfl | (simp; done) | (simp [*]; done)), H', ⟨by have := HJ1.out; have := HK2.out; have := HJ56.out; have := HK4.out; omega⟩, ⟨by (with_reducible repeat (first | refine zah ?_ _ | refine zaj ?_ | refine zai ?_ _)); exact BK249.out⟩, ⟨by (with_reducible repeat (first | refine zah ?_ _ | refine zaj ?_ | refine zai ?_ _)); exact BK250.out⟩, ⟨by repeat (first | (with_reducible first | exact HB.out | apply zac | apply zaa | apply zab | refine zaf ?_ GE249.out | refine zaf ?_ GE250.out) | exact HB.out)⟩⟩
               ·replace c83 := Bool.eq_false_iff.mpr c83
                subst c83
                have H1 : (some false) = some r := by rw [if_neg (show ¬ (false = true) by decide)] at H; exact H
                clear H
                have H := H1
                clear H1
                obtain rfl := Option.some.inj H
                have hnb87 := NB249_250.out
                have hnc87 := NB250_249.out
                obtain ⟨hcz88_0, hcz88_1, hcz88_2, hcz88_3, hcz88_4, hcz88_5, hcz88_6, hcz88_7, hcz88_8, hcz88_9, hcz88_10, hcz88_11, hcz88_12, hcz88_13⟩ := cq14 BK249.out
                obtain ⟨hfz88_0, hfz88_1, hfz88_2, hfz88_3, hfz88_4, hfz88_5, hfz88_6, hfz88_7, hfz88_8, hfz88_9, hfz88_10, hfz88_11, hfz88_12, hfz88_13⟩ := fq14 BK249.out
                have p254 : 0 ≤ (x5_4 : Int) := of_decide_eq_true (by first | (with_reducible assumption) | assumption)
                have q254 : x5_4 < (l0_11.length : Int) := of_decide_eq_true (by first | (with_reducible assumption) | assumption)
                obtain ⟨ad254, e254, hx254_0, hx254_1, hx254_2⟩ := zce HR0_11.out x5_4 p254 q254
                cases e254
                replace hx254_0 := (HB.out.cell (World.block_lt_of_cell? w _ hx254_0)).trans hx254_0
                replace hx254_1 := (HB.out.cell (World.block_lt_of_cell? w _ hx254_1)).trans hx254_1
                replace hx254_2 := (HB.out.cell (World.block_lt_of_cell? w _ hx254_2)).trans hx254_2
                replace p254 := eq_true p254
                replace q254 := eq_true q254
                go_wp2_with (first | ((with_reducible refine za0 (f := 37) rfl ?_); refine zbq (some 107) rfl rfl Tryd.func37 (by kernel_rfl) rfl #[.agg #[.int .i64 ((zap l0_11 x5_4).f0), .int .i64 ((zap l0_11 x5_4).f1), .string ((zap l0_11 x5_4).f2)]] rfl (by (try simp only [List.map_toArray, List.map_cons, List.map_nil]); first | done | rfl | (simp only [List.length_drop, List.length_take]; rfl)) ?_; (with_reducible refine (zaw.calls k4 ((zap l0_11 x5_4).f0) ((zap l0_11 x5_4).f1) ((zap l0_11 x5_4).f2) false _ A82.out).mono ?_); rintro e w89 ⟨rfl, hb⟩; refine ⟨_, rfl, ?_⟩; have n0_ := zad.mk (zav (g := gb249) (o := .cells #[.int .i64 a0_0, .int .i64 a0_1, .int .i64 a0_2, .string a0_3, .int .i64 a0_4, .int .i64 a0_5, .int .i64 a0_6, .int .i64 a0_7, .string a0_8, .int .i64 a0_9, .slice A0_10 l0_10.length c0_10, .slice (some ad254) l0_11.length c0_11, .bool a0_12, .string a0_13] 47 (0, 0)) (by (with_reducible repeat (first | refine zah ?_ _ | refine zaj ?_ | refine zai ?_ _)); exact BK249.out) hb); have n1_ := zad.mk (zav (g := gb250) (o := .cells #[.int .i64 0, .int .i64 0, .string (⟨#[]⟩ : ByteArray)] 38 (0, 0)) (by (with_reducible repeat (first | refine zah ?_ _ | refine zaj ?_ | refine zai ?_ _)); exact BK250.out) hb); have n2_ := zad.mk (zaq (by repeat (first | (with_reducible first | exact HB.out | apply zac | apply zaa | apply zab | refine zaf ?_ GE249.out | refine zaf ?_ GE250.out) | exact HB.out)) hb); clear BK249; clear BK250; clear HB; have BK249 := n0_; have BK250 := n1_; have HB := n2_; clear n0_ n1_ n2_; (try clear hb); (try clear hb2); (try clear hk); (try clear hi)))
                go_ret
                exact ⟨by first | rfl | (simp [zam, zal] <;> rfl) | (simp [*, zam, zal] <;> rfl), by repeat (first | (with_reducible first | exact HB.out | apply zac | apply zaa | apply zab | refine zaf ?_ GE249.out | refine zaf ?_ GE250.out) | exact HB.out)⟩
              ·rw [if_neg c81] at H
               exact absurd H (by simp)
             ·rw [if_neg c80] at H
              have c80b0 : decide (x5_4 < (l0_11.length : Int)) = false := decide_eq_false c80
              clear c80
              by_cases c90 : a0_4 = 2
              ·rw [if_pos c90] at H
               have c90b0 : (a0_4 == 2) = true := beq_iff_eq.mpr c90
               have c90b1 : (a0_4 != 2) = false := bne_eq_false_iff_eq.mpr c90
               clear c90
               obtain rfl := Option.some.inj H
               have hnb91 := NB249_250.out
               have hnc91 := NB250_249.out
               obtain ⟨hcz92_0, hcz92_1, hcz92_2, hcz92_3, hcz92_4, hcz92_5, hcz92_6, hcz92_7, hcz92_8, hcz92_9, hcz92_10, hcz92_11, hcz92_12, hcz92_13⟩ := cq14 BK249.out
               obtain ⟨hfz92_0, hfz92_1, hfz92_2, hfz92_3, hfz92_4, hfz92_5, hfz92_6, hfz92_7, hfz92_8, hfz92_9, hfz92_10, hfz92_11, hfz92_12, hfz92_13⟩ := fq14 BK249.out
               go_wp2
               go_ret
               exact ⟨by first | rfl | (simp [zam, zal] <;> rfl) | (simp [*, zam, zal] <;> rfl), by repeat (first | (with_reducible first | exact HB.out | apply zac | apply zaa | apply zab | refine zaf ?_ GE249.out | refine zaf ?_ GE250.out) | exact HB.out)⟩
              ·rw [if_neg c90] at H
               have c90b0 : (a0_4 == 2) = false := beq_eq_false_iff_ne.mpr c90
               have c90b1 : (a0_4 != 2) = true := bne_iff_ne.mpr c90
               obtain rfl := Option.some.inj H
               have hnb93 := NB249_250.out
               have hnc93 := NB250_249.out
               obtain ⟨hcz94_0, hcz94_1, hcz94_2, hcz94_3, hcz94_4, hcz94_5, hcz94_6, hcz94_7, hcz94_8, hcz94_9, hcz94_10, hcz94_11, hcz94_12, hcz94_13⟩ := cq14 BK249.out
               obtain ⟨hfz94_0, hfz94_1, hfz94_2, hfz94_3, hfz94_4, hfz94_5, hfz94_6, hfz94_7, hfz94_8, hfz94_9, hfz94_10, hfz94_11, hfz94_12, hfz94_13⟩ := fq14 BK249.out
               go_wp2
               go_ret
               exact ⟨by first | rfl | (simp [zam, zal] <;> rfl) | (simp [*, zam, zal] <;> rfl), by repeat (first | (with_reducible first | exact HB.out | apply zac | apply zaa | apply zab | refine zaf ?_ GE249.out | refine zaf ?_ GE250.out) | exact HB.out)⟩
end Go.Proofs.YtikmmigfdchcpaaDoor.PP
