import Derived.Test.YtikmmigfdchcpaaDoorPbQ0
import Derived.Test.YtikmmigfdchcpaaDoorPbQ902
import Derived.Test.YtikmmigfdchcpaaDoorPbQ37
import Derived.Test.YtikmmigfdchcpaaDoorPbQ38
import Derived.Test.YtikmmigfdchcpaaDoorPbQ43
/-
  Proved: a part of the proof of the claim's statement (text Q44 of it).
  Conditions: none of ours.
-/
namespace Go.Proofs.YtikmmigfdchcpaaDoor.PP
open Go.RowKit Go.Proofs.YtikmmigfdchcpaaDoorW.PrintWords Go.Proofs.YtikmmigfdchcpaaDoorW.PrintLast Go.Proofs.YtikmmigfdchcpaaDoorW.PrintMore
set_option linter.unusedVariables false
set_option linter.unusedSimpArgs false
attribute [local go_sem high] eqA38
/-! ### zao: function 29 -/
mutual
def zao.j0 : Nat → Bool → Int → Int → Int → ByteArray → Int → Int → Int → Int → ByteArray → Int → List (S38) → List (S38) → Bool → ByteArray → Int → Int → ByteArray → Option (Bool)
 | 0, _, _, _, _, _, _, _, _, _, _, _, _, _, _, _, _, _, _ => none
 | k + 1, x31, x250000, x250001, x250002, x250003, x250004, x250005, x250006, x250007, x250008, x250009, x250010, x250011, x250012, x250013, x251000, x251001, x251002 => if x31 = true then (some false) else (zao.l0 k 0 x250000 x250001 x250002 x250003 x250004 x250005 x250006 x250007 x250008 x250009 x250010 x250011 x250012 x250013 x251000 x251001 x251002)
def zao.l0 : Nat → Int → Int → Int → Int → ByteArray → Int → Int → Int → Int → ByteArray → Int → List (S38) → List (S38) → Bool → ByteArray → Int → Int → ByteArray → Option (Bool)
 | 0, _, _, _, _, _, _, _, _, _, _, _, _, _, _, _, _, _, _ => none
 | k + 1, x4, x250000, x250001, x250002, x250003, x250004, x250005, x250006, x250007, x250008, x250009, x250010, x250011, x250012, x250013, x251000, x251001, x251002 => if x4 < (x250013.size : Int) then (if 0 ≤ x4 then (if (bt x250013 x4) = 10 then (some false) else (zao.l0 k (wrap64 (x4 + 1)) x250000 x250001 x250002 x250003 x250004 x250005 x250006 x250007 x250008 x250009 x250010 x250011 x250012 x250013 x251000 x251001 x251002)) else (none)) else (if x250004 = 1 then ((zaw.f k x250005 x250009 x250010).bind fun t252 => (if t252 = true then ((zbi.f k x250006 x250007 x250008).bind fun t253 => (if t253 = true then (some ((x250011.length : Int) == 0)) else (some false))) else (some false))) else (if x250004 < 2 then (zao.j2 k true x250000 x250001 x250002 x250003 x250004 x250005 x250006 x250007 x250008 x250009 x250010 x250011 x250012 x250013) else (if x250004 > 4 then (zao.j2 k true x250000 x250001 x250002 x250003 x250004 x250005 x250006 x250007 x250008 x250009 x250010 x250011 x250012 x250013) else (if x250005 = 0 then (if x250009 = 0 then (if (!(x250006 == x251000) || (!(x250007 == x251001) || (!(x250008.toList == x251002.toList)))) = true then (zao.j2 k true x250000 x250001 x250002 x250003 x250004 x250005 x250006 x250007 x250008 x250009 x250010 x250011 x250012 x250013) else (zao.j2 k (decide ((x250010.length : Int) > 0)) x250000 x250001 x250002 x250003 x250004 x250005 x250006 x250007 x250008 x250009 x250010 x250011 x250012 x250013)) else (zao.j2 k true x250000 x250001 x250002 x250003 x250004 x250005 x250006 x250007 x250008 x250009 x250010 x250011 x250012 x250013)) else (zao.j2 k true x250000 x250001 x250002 x250003 x250004 x250005 x250006 x250007 x250008 x250009 x250010 x250011 x250012 x250013)))))
def zao.j2 : Nat → Bool → Int → Int → Int → ByteArray → Int → Int → Int → Int → ByteArray → Int → List (S38) → List (S38) → Bool → ByteArray → Option (Bool)
 | 0, _, _, _, _, _, _, _, _, _, _, _, _, _, _, _ => none
 | k + 1, x94, x250000, x250001, x250002, x250003, x250004, x250005, x250006, x250007, x250008, x250009, x250010, x250011, x250012, x250013 => if x94 = true then (some false) else (zao.l1 k 0 x250000 x250001 x250002 x250003 x250004 x250005 x250006 x250007 x250008 x250009 x250010 x250011 x250012 x250013)
def zao.l1 : Nat → Int → Int → Int → Int → ByteArray → Int → Int → Int → Int → ByteArray → Int → List (S38) → List (S38) → Bool → ByteArray → Option (Bool)
 | 0, _, _, _, _, _, _, _, _, _, _, _, _, _, _, _ => none
 | k + 1, x5, x250000, x250001, x250002, x250003, x250004, x250005, x250006, x250007, x250008, x250009, x250010, x250011, x250012, x250013 => if x5 < (x250011.length : Int) then (if 0 ≤ x5 then ((zax.f k ((zap x250011 x5).f0) ((zap x250011 x5).f1) ((zap x250011 x5).f2)).bind fun t255 => (if t255 = true then (zao.l1 k (wrap64 (x5 + 1)) x250000 x250001 x250002 x250003 x250004 x250005 x250006 x250007 x250008 x250009 x250010 x250011 x250012 x250013) else (some false))) else (none)) else (if x250004 = 2 then (some true) else (some ((x250011.length : Int) == 0)))
end
def zao.f (k : Nat) (a0_0 : Int) (a0_1 : Int) (a0_2 : Int) (a0_3 : ByteArray) (a0_4 : Int) (a0_5 : Int) (a0_6 : Int) (a0_7 : Int) (a0_8 : ByteArray) (a0_9 : Int) (l0_10 : List (S38)) (l0_11 : List (S38)) (a0_12 : Bool) (a0_13 : ByteArray) : Option (Bool) := if a0_0 < 0 then (zao.j0 k true a0_0 a0_1 a0_2 a0_3 a0_4 a0_5 a0_6 a0_7 a0_8 a0_9 l0_10 l0_11 a0_12 a0_13 0 0 (⟨#[]⟩ : ByteArray)) else ((zbi.f k a0_1 a0_2 a0_3).bind fun t251 => (if t251 = true then (if (a0_13.size : Int) > 100 then (zao.j0 k true a0_0 a0_1 a0_2 a0_3 a0_4 a0_5 a0_6 a0_7 a0_8 a0_9 l0_10 l0_11 a0_12 a0_13 0 0 (⟨#[]⟩ : ByteArray)) else (if a0_12 = true then (zao.j0 k false a0_0 a0_1 a0_2 a0_3 a0_4 a0_5 a0_6 a0_7 a0_8 a0_9 l0_10 l0_11 a0_12 a0_13 0 0 (⟨#[]⟩ : ByteArray)) else (zao.j0 k (a0_13.toList != ([] : List UInt8)) a0_0 a0_1 a0_2 a0_3 a0_4 a0_5 a0_6 a0_7 a0_8 a0_9 l0_10 l0_11 a0_12 a0_13 0 0 (⟨#[]⟩ : ByteArray)))) else (zao.j0 k true a0_0 a0_1 a0_2 a0_3 a0_4 a0_5 a0_6 a0_7 a0_8 a0_9 l0_10 l0_11 a0_12 a0_13 0 0 (⟨#[]⟩ : ByteArray))))
set_option maxHeartbeats 8000000 in
set_option maxRecDepth 100000 in
theorem zao.calls (k : Nat) (a0_0 : Int) (a0_1 : Int) (a0_2 : Int) (a0_3 : ByteArray) (a0_4 : Int) (a0_5 : Int) (a0_6 : Int) (a0_7 : Int) (a0_8 : ByteArray) (a0_9 : Int) (A0_10 : Option Addr) (c0_10 : Nat) (l0_10 : List (S38)) (A0_11 : Option Addr) (c0_11 : Nat) (l0_11 : List (S38)) (a0_12 : Bool) (a0_13 : ByteArray) (r : Bool) (w : World) (hr0_10 : Kd.C k38 w A0_10 l0_10.length l0_10) (hc0_10 : l0_10.length ≤ c0_10) (hr0_11 : Kd.C k38 w A0_11 l0_11.length l0_11) (hc0_11 : l0_11.length ≤ c0_11) (h : zao.f k a0_0 a0_1 a0_2 a0_3 a0_4 a0_5 a0_6 a0_7 a0_8 a0_9 l0_10 l0_11 a0_12 a0_13 = some r) :
  Calls Tryd.prog 29 #[.agg #[.int .i64 a0_0, .int .i64 a0_1, .int .i64 a0_2, .string a0_3, .int .i64 a0_4, .int .i64 a0_5, .int .i64 a0_6, .int .i64 a0_7, .string a0_8, .int .i64 a0_9, .slice A0_10 l0_10.length c0_10, .slice A0_11 l0_11.length c0_11, .bool a0_12, .string a0_13]] w fun e w' => e = .returned (.bool r) ∧ Below w.heap.size w w' := by
 have hu47 := Tryd.underlying47
 have hu38 := Tryd.underlying38
 have HR0_10 := zae.mk hr0_10
 have HC0_10 := zae.mk hc0_10
 clear hr0_10 hc0_10
 have HR0_11 := zae.mk hr0_11
 have HC0_11 := zae.mk hc0_11
 clear hr0_11 hc0_11
 have HB := zae.mk (Below.refl w.heap.size w)
 have H : (if a0_0 < 0 then (zao.j0 k true a0_0 a0_1 a0_2 a0_3 a0_4 a0_5 a0_6 a0_7 a0_8 a0_9 l0_10 l0_11 a0_12 a0_13 0 0 (⟨#[]⟩ : ByteArray)) else ((zbi.f k a0_1 a0_2 a0_3).bind fun t251 => (if t251 = true then (if (a0_13.size : Int) > 100 then (zao.j0 k true a0_0 a0_1 a0_2 a0_3 a0_4 a0_5 a0_6 a0_7 a0_8 a0_9 l0_10 l0_11 a0_12 a0_13 0 0 (⟨#[]⟩ : ByteArray)) else (if a0_12 = true then (zao.j0 k false a0_0 a0_1 a0_2 a0_3 a0_4 a0_5 a0_6 a0_7 a0_8 a0_9 l0_10 l0_11 a0_12 a0_13 0 0 (⟨#[]⟩ : ByteArray)) else (zao.j0 k (a0_13.toList != ([] : List UInt8)) a0_0 a0_1 a0_2 a0_3 a0_4 a0_5 a0_6 a0_7 a0_8 a0_9 l0_10 l0_11 a0_12 a0_13 0 0 (⟨#[]⟩ : ByteArray)))) else (zao.j0 k true a0_0 a0_1 a0_2 a0_3 a0_4 a0_5 a0_6 a0_7 a0_8 a0_9 l0_10 l0_11 a0_12 a0_13 0 0 (⟨#[]⟩ : ByteArray))))) = some r := h
 clear h
 have HC2 := zae.mk H
 clear H
 go_enter Tryd.func29, Tryd.ntmps29
 go_upto_region 2 with (first | ((with_reducible refine za8 (N := 1) rfl ?_); (try (refine zcg (by rfl) ?_; dsimp only)); refine za7 ?hg (N := 1) ?hd (cs := #[.int .i64 a0_0, .int .i64 a0_1, .int .i64 a0_2, .string a0_3, .int .i64 a0_4, .int .i64 a0_5, .int .i64 a0_6, .int .i64 a0_7, .string a0_8, .int .i64 a0_9, .slice A0_10 l0_10.length c0_10, .slice A0_11 l0_11.length c0_11, .bool a0_12, .string a0_13]) (t := 47) ?hr ?_; (case hd => rfl); (case hg => rfl); (case hr => first | (go_simp; done) | (go_simp; rfl)); intro gb249 hg w3 hbox hb; have n0_ := zae.mk (zaq (by repeat with_reducible first | exact HB.out | apply zad | apply zaa | apply zac) hb); have n1_ := zae.mk (hbox); have n2_ := zae.mk ((by rw [hg]; exact (zav (by repeat with_reducible first | exact HB.out | apply zad | apply zaa | apply zac)) : w.heap.size ≤ gb249)); have n3_ := n2_; clear HB; have HB := n0_; have BK249 := n1_; have GW249 := n2_; have GE249 := n3_; clear n0_ n1_ n2_ n3_; clear hb hbox hg) | ((with_reducible refine za8 (N := 3) rfl ?_); (try (refine zcg (by rfl) ?_; dsimp only)); refine za7 ?hg (N := 3) ?hd (cs := #[.int .i64 0, .int .i64 0, .string (⟨#[]⟩ : ByteArray)]) (t := 38) ?hr ?_; (case hd => rfl); (case hg => rfl); (case hr => first | (go_simp; done) | (go_simp; rfl)); intro gb250 hg w4 hbox hb; have n0_ := zae.mk (zau (g := gb249) (o := .cells #[.int .i64 a0_0, .int .i64 a0_1, .int .i64 a0_2, .string a0_3, .int .i64 a0_4, .int .i64 a0_5, .int .i64 a0_6, .int .i64 a0_7, .string a0_8, .int .i64 a0_9, .slice A0_10 l0_10.length c0_10, .slice A0_11 l0_11.length c0_11, .bool a0_12, .string a0_13] 47 (0, 0)) (by (with_reducible repeat (first | refine zai ?_ _ | refine zak ?_ | refine zaj ?_ _)); exact BK249.out) hb); have n1_ := zae.mk (zaq (by repeat with_reducible first | exact HB.out | apply zad | apply zaa | apply zac | refine zag ?_ GE249.out) hb); have n2_ := zae.mk (hbox); have n3_ := zae.mk ((by rw [hg]; exact (zav (by repeat with_reducible first | exact HB.out | apply zad | apply zaa | apply zac | refine zag ?_ GE249.out)) : w.heap.size ≤ gb250)); have n4_ := zae.mk ((by rw [hg]; exact (zav (by repeat with_reducible first | exact HB.out | apply zad | apply zaa | apply zac | refine zag ?_ GE249.out)) : w.heap.size ≤ gb250)); have n5_ := zae.mk ((by rw [hg]; exact Nat.ne_of_lt (zca (g := gb249) (o := .cells #[.int .i64 a0_0, .int .i64 a0_1, .int .i64 a0_2, .string a0_3, .int .i64 a0_4, .int .i64 a0_5, .int .i64 a0_6, .int .i64 a0_7, .string a0_8, .int .i64 a0_9, .slice A0_10 l0_10.length c0_10, .slice A0_11 l0_11.length c0_11, .bool a0_12, .string a0_13] 47 (0, 0)) (by (with_reducible repeat (first | refine zai ?_ _ | refine zak ?_ | refine zaj ?_ _)); exact BK249.out)) : gb249 ≠ gb250)); have n6_ := zae.mk ((by rw [hg]; exact Nat.ne_of_gt (zca (g := gb249) (o := .cells #[.int .i64 a0_0, .int .i64 a0_1, .int .i64 a0_2, .string a0_3, .int .i64 a0_4, .int .i64 a0_5, .int .i64 a0_6, .int .i64 a0_7, .string a0_8, .int .i64 a0_9, .slice A0_10 l0_10.length c0_10, .slice A0_11 l0_11.length c0_11, .bool a0_12, .string a0_13] 47 (0, 0)) (by (with_reducible repeat (first | refine zai ?_ _ | refine zak ?_ | refine zaj ?_ _)); exact BK249.out)) : gb250 ≠ gb249)); clear BK249; clear HB; have BK249 := n0_; have HB := n1_; have BK250 := n2_; have GW250 := n3_; have GE250 := n4_; have NB249_250 := n5_; have NB250_249 := n6_; clear n0_ n1_ n2_ n3_ n4_ n5_ n6_; clear hb hbox hg; have hnb5 := NB250_249.out; have hnc5 := NB249_250.out; obtain ⟨d6_0, d6_1, d6_2⟩ := cq3 BK250.out; obtain ⟨e6_0, e6_1, e6_2⟩ := fq3 BK250.out))
 (try simp only [Act.put, List.setIfInBounds_toArray, List.set_cons_zero, List.set_cons_succ])
 go_cut [31] (fun v31 wc => ∃ (kq : Nat) (x31_1 : Bool), v31 = .bool x31_1 ∧ zae (zao.j0 kq x31_1 a0_0 a0_1 a0_2 a0_3 a0_4 a0_5 a0_6 a0_7 a0_8 a0_9 l0_10 l0_11 a0_12 a0_13 0 0 (⟨#[]⟩ : ByteArray) = some r) ∧ zae (kq ≤ k) ∧ zae (wc.heap[gb249]? = some (.cells #[.int .i64 a0_0, .int .i64 a0_1, .int .i64 a0_2, .string a0_3, .int .i64 a0_4, .int .i64 a0_5, .int .i64 a0_6, .int .i64 a0_7, .string a0_8, .int .i64 a0_9, (.slice A0_10 l0_10.length c0_10), (.slice A0_11 l0_11.length c0_11), .bool a0_12, .string a0_13] 47 (0, 0))) ∧ zae (wc.heap[gb250]? = some (.cells #[.int .i64 0, .int .i64 0, .string (⟨#[]⟩ : ByteArray)] 38 (0, 0))) ∧ zae (Below w.heap.size w wc))
 case first =>
  have H := HC2.out
  clear HC2
  by_cases c7 : a0_0 < 0
  ·rw [if_pos c7] at H
   have c7b0 : decide (a0_0 < 0) = true := decide_eq_true c7
   clear c7
   (first | rw [c7b0] | (simp only [i64_w]; rw [c7b0]) | skip)
   have H' := zae.mk H
   clear H
   have hnb8 := NB249_250.out
   have hnc8 := NB250_249.out
   obtain ⟨d9_0, d9_1, d9_2, d9_3, d9_4, d9_5, d9_6, d9_7, d9_8, d9_9, d9_10, d9_11, d9_12, d9_13⟩ := cq14 BK249.out
   obtain ⟨e9_0, e9_1, e9_2, e9_3, e9_4, e9_5, e9_6, e9_7, e9_8, e9_9, e9_10, e9_11, e9_12, e9_13⟩ := fq14 BK249.out
   go_wp2
   go_meet
   case rel => exact ⟨_, (true), (by first | rfl | (simp; done) | (simp [*]; done)), H', ⟨by first | omega | exact Nat.le_refl _⟩, ⟨by (with_reducible repeat (first | refine zai ?_ _ | refine zak ?_ | refine zaj ?_ _)); refine zb7 ?_ NB249_250.out _; (with_reducible repeat (first | refine zai ?_ _ | refine zak ?_ | refine zaj ?_ _)); refine zb7 ?_ NB249_250.out _; (with_reducible repeat (first | refine zai ?_ _ | refine zak ?_ | refine zaj ?_ _)); refine zb7 ?_ NB249_250.out _; (with_reducible repeat (first | refine zai ?_ _ | refine zak ?_ | refine zaj ?_ _)); exact BK249.out⟩, ⟨by (with_reducible repeat (first | refine zai ?_ _ | refine zak ?_ | refine zaj ?_ _)); refine pq3 (.int .i64 0) (.int .i64 0) (.string (⟨#[]⟩ : ByteArray)) ?_; (with_reducible repeat (first | refine zai ?_ _ | refine zak ?_ | refine zaj ?_ _)); exact BK250.out⟩, ⟨by repeat with_reducible first | exact HB.out | apply zad | apply zaa | apply zac | refine zag ?_ GE249.out | refine zag ?_ GE250.out⟩⟩
  ·rw [if_neg c7] at H
   have c7b0 : decide (a0_0 < 0) = false := decide_eq_false c7
   clear c7
   (first | rw [c7b0] | (simp only [i64_w]; rw [c7b0]) | skip)
   replace H := Option.bind_eq_some_iff.mp H
   obtain ⟨t251, A100, H⟩ := H
   replace H : (if t251 = true then (if (a0_13.size : Int) > 100 then (zao.j0 k true a0_0 a0_1 a0_2 a0_3 a0_4 a0_5 a0_6 a0_7 a0_8 a0_9 l0_10 l0_11 a0_12 a0_13 0 0 (⟨#[]⟩ : ByteArray)) else (if a0_12 = true then (zao.j0 k false a0_0 a0_1 a0_2 a0_3 a0_4 a0_5 a0_6 a0_7 a0_8 a0_9 l0_10 l0_11 a0_12 a0_13 0 0 (⟨#[]⟩ : ByteArray)) else (zao.j0 k (a0_13.toList != ([] : List UInt8)) a0_0 a0_1 a0_2 a0_3 a0_4 a0_5 a0_6 a0_7 a0_8 a0_9 l0_10 l0_11 a0_12 a0_13 0 0 (⟨#[]⟩ : ByteArray)))) else (zao.j0 k true a0_0 a0_1 a0_2 a0_3 a0_4 a0_5 a0_6 a0_7 a0_8 a0_9 l0_10 l0_11 a0_12 a0_13 0 0 (⟨#[]⟩ : ByteArray))) = some r := H
   have A10 := zae.mk A100
   clear A100
   by_cases c11 : t251 = true
   ·subst c11
    have H1 : (if (a0_13.size : Int) > 100 then (zao.j0 k true a0_0 a0_1 a0_2 a0_3 a0_4 a0_5 a0_6 a0_7 a0_8 a0_9 l0_10 l0_11 a0_12 a0_13 0 0 (⟨#[]⟩ : ByteArray)) else (if a0_12 = true then (zao.j0 k false a0_0 a0_1 a0_2 a0_3 a0_4 a0_5 a0_6 a0_7 a0_8 a0_9 l0_10 l0_11 a0_12 a0_13 0 0 (⟨#[]⟩ : ByteArray)) else (zao.j0 k (a0_13.toList != ([] : List UInt8)) a0_0 a0_1 a0_2 a0_3 a0_4 a0_5 a0_6 a0_7 a0_8 a0_9 l0_10 l0_11 a0_12 a0_13 0 0 (⟨#[]⟩ : ByteArray)))) = some r := by rw [if_pos rfl] at H; exact H
    clear H
    have H := H1
    clear H1
    by_cases c12 : (a0_13.size : Int) > 100
    ·rw [if_pos c12] at H
     have c12b0 : decide (100 < (a0_13.size : Int)) = true := decide_eq_true c12
     have c12b1 : decide (100 < a0_13.size) = true := decide_eq_true (by omega)
     clear c12
     have H' := zae.mk H
     clear H
     have hnb13 := NB249_250.out
     have hnc13 := NB250_249.out
     obtain ⟨d14_0, d14_1, d14_2, d14_3, d14_4, d14_5, d14_6, d14_7, d14_8, d14_9, d14_10, d14_11, d14_12, d14_13⟩ := cq14 BK249.out
     obtain ⟨e14_0, e14_1, e14_2, e14_3, e14_4, e14_5, e14_6, e14_7, e14_8, e14_9, e14_10, e14_11, e14_12, e14_13⟩ := fq14 BK249.out
     go_wp2_with (first | (go_at_call 35; (with_reducible refine (zbi.calls k a0_1 a0_2 a0_3 true _ A10.out).mono ?_); rintro e w15 ⟨rfl, hb⟩; have n0_ := zae.mk (zau (g := gb249) (o := .cells #[.int .i64 a0_0, .int .i64 a0_1, .int .i64 a0_2, .string a0_3, .int .i64 a0_4, .int .i64 a0_5, .int .i64 a0_6, .int .i64 a0_7, .string a0_8, .int .i64 a0_9, .slice A0_10 l0_10.length c0_10, .slice A0_11 l0_11.length c0_11, .bool a0_12, .string a0_13] 47 (0, 0)) (by (with_reducible repeat (first | refine zai ?_ _ | refine zak ?_ | refine zaj ?_ _)); refine zb7 ?_ NB249_250.out _; (with_reducible repeat (first | refine zai ?_ _ | refine zak ?_ | refine zaj ?_ _)); refine zb7 ?_ NB249_250.out _; (with_reducible repeat (first | refine zai ?_ _ | refine zak ?_ | refine zaj ?_ _)); refine zb7 ?_ NB249_250.out _; (with_reducible repeat (first | refine zai ?_ _ | refine zak ?_ | refine zaj ?_ _)); exact BK249.out) hb); have n1_ := zae.mk (zau (g := gb250) (o := .cells #[.int .i64 0, .int .i64 0, .string (⟨#[]⟩ : ByteArray)] 38 (0, 0)) (by (with_reducible repeat (first | refine zai ?_ _ | refine zak ?_ | refine zaj ?_ _)); refine pq3 (.int .i64 0) (.int .i64 0) (.string (⟨#[]⟩ : ByteArray)) ?_; (with_reducible repeat (first | refine zai ?_ _ | refine zak ?_ | refine zaj ?_ _)); exact BK250.out) hb); have n2_ := zae.mk (zaq (by repeat with_reducible first | exact HB.out | apply zad | apply zaa | apply zac | refine zag ?_ GE249.out | refine zag ?_ GE250.out) hb); clear BK249; clear BK250; clear HB; have BK249 := n0_; have BK250 := n1_; have HB := n2_; clear n0_ n1_ n2_; (try clear hb); (try clear hb2); (try clear hk); (try clear hi); obtain ⟨d16_0, d16_1, d16_2, d16_3, d16_4, d16_5, d16_6, d16_7, d16_8, d16_9, d16_10, d16_11, d16_12, d16_13⟩ := cq14 BK249.out; obtain ⟨e16_0, e16_1, e16_2, e16_3, e16_4, e16_5, e16_6, e16_7, e16_8, e16_9, e16_10, e16_11, e16_12, e16_13⟩ := fq14 BK249.out))
     go_meet
     case rel => exact ⟨_, (true), (by first | rfl | (simp; done) | (simp [*]; done)), H', ⟨by first | omega | exact Nat.le_refl _⟩, ⟨by (with_reducible repeat (first | refine zai ?_ _ | refine zak ?_ | refine zaj ?_ _)); exact BK249.out⟩, ⟨by (with_reducible repeat (first | refine zai ?_ _ | refine zak ?_ | refine zaj ?_ _)); exact BK250.out⟩, ⟨by repeat with_reducible first | exact HB.out | apply zad | apply zaa | apply zac | refine zag ?_ GE249.out | refine zag ?_ GE250.out⟩⟩
    ·rw [if_neg c12] at H
     have c12b0 : decide (100 < (a0_13.size : Int)) = false := decide_eq_false c12
     have c12b1 : decide (100 < a0_13.size) = false := decide_eq_false (by omega)
     clear c12
     by_cases c17 : a0_12 = true
     ·subst c17
      have H1 : (zao.j0 k false a0_0 a0_1 a0_2 a0_3 a0_4 a0_5 a0_6 a0_7 a0_8 a0_9 l0_10 l0_11 true a0_13 0 0 (⟨#[]⟩ : ByteArray)) = some r := by rw [if_pos rfl] at H; exact H
      clear H
      have H := H1
      clear H1
      have H' := zae.mk H
      clear H
      have hnb18 := NB249_250.out
      have hnc18 := NB250_249.out
      obtain ⟨d19_0, d19_1, d19_2, d19_3, d19_4, d19_5, d19_6, d19_7, d19_8, d19_9, d19_10, d19_11, d19_12, d19_13⟩ := cq14 BK249.out
      obtain ⟨e19_0, e19_1, e19_2, e19_3, e19_4, e19_5, e19_6, e19_7, e19_8, e19_9, e19_10, e19_11, e19_12, e19_13⟩ := fq14 BK249.out
      go_wp2_with (first | (go_at_call 35; (with_reducible refine (zbi.calls k a0_1 a0_2 a0_3 true _ A10.out).mono ?_); rintro e w20 ⟨rfl, hb⟩; have n0_ := zae.mk (zau (g := gb249) (o := .cells #[.int .i64 a0_0, .int .i64 a0_1, .int .i64 a0_2, .string a0_3, .int .i64 a0_4, .int .i64 a0_5, .int .i64 a0_6, .int .i64 a0_7, .string a0_8, .int .i64 a0_9, .slice A0_10 l0_10.length c0_10, .slice A0_11 l0_11.length c0_11, .bool true, .string a0_13] 47 (0, 0)) (by (with_reducible repeat (first | refine zai ?_ _ | refine zak ?_ | refine zaj ?_ _)); refine zb7 ?_ NB249_250.out _; (with_reducible repeat (first | refine zai ?_ _ | refine zak ?_ | refine zaj ?_ _)); refine zb7 ?_ NB249_250.out _; (with_reducible repeat (first | refine zai ?_ _ | refine zak ?_ | refine zaj ?_ _)); refine zb7 ?_ NB249_250.out _; (with_reducible repeat (first | refine zai ?_ _ | refine zak ?_ | refine zaj ?_ _)); exact BK249.out) hb); have n1_ := zae.mk (zau (g := gb250) (o := .cells #[.int .i64 0, .int .i64 0, .string (⟨#[]⟩ : ByteArray)] 38 (0, 0)) (by (with_reducible repeat (first | refine zai ?_ _ | refine zak ?_ | refine zaj ?_ _)); refine pq3 (.int .i64 0) (.int .i64 0) (.string (⟨#[]⟩ : ByteArray)) ?_; (with_reducible repeat (first | refine zai ?_ _ | refine zak ?_ | refine zaj ?_ _)); exact BK250.out) hb); have n2_ := zae.mk (zaq (by repeat with_reducible first | exact HB.out | apply zad | apply zaa | apply zac | refine zag ?_ GE249.out | refine zag ?_ GE250.out) hb); clear BK249; clear BK250; clear HB; have BK249 := n0_; have BK250 := n1_; have HB := n2_; clear n0_ n1_ n2_; (try clear hb); (try clear hb2); (try clear hk); (try clear hi); obtain ⟨d21_0, d21_1, d21_2, d21_3, d21_4, d21_5, d21_6, d21_7, d21_8, d21_9, d21_10, d21_11, d21_12, d21_13⟩ := cq14 BK249.out; obtain ⟨e21_0, e21_1, e21_2, e21_3, e21_4, e21_5, e21_6, e21_7, e21_8, e21_9, e21_10, e21_11, e21_12, e21_13⟩ := fq14 BK249.out))
      go_meet
      case rel => exact ⟨_, (false), (by first | rfl | (simp; done) | (simp [*]; done)), H', ⟨by first | omega | exact Nat.le_refl _⟩, ⟨by (with_reducible repeat (first | refine zai ?_ _ | refine zak ?_ | refine zaj ?_ _)); exact BK249.out⟩, ⟨by (with_reducible repeat (first | refine zai ?_ _ | refine zak ?_ | refine zaj ?_ _)); exact BK250.out⟩, ⟨by repeat with_reducible first | exact HB.out | apply zad | apply zaa | apply zac | refine zag ?_ GE249.out | refine zag ?_ GE250.out⟩⟩
     ·replace c17 := Bool.eq_false_iff.mpr c17
      subst c17
      have H1 : (zao.j0 k (a0_13.toList != ([] : List UInt8)) a0_0 a0_1 a0_2 a0_3 a0_4 a0_5 a0_6 a0_7 a0_8 a0_9 l0_10 l0_11 false a0_13 0 0 (⟨#[]⟩ : ByteArray)) = some r := by rw [if_neg (show ¬ (false = true) by decide)] at H; exact H
      clear H
      have H := H1
      clear H1
      have H' := zae.mk H
      clear H
      have hnb22 := NB249_250.out
      have hnc22 := NB250_249.out
      obtain ⟨d23_0, d23_1, d23_2, d23_3, d23_4, d23_5, d23_6, d23_7, d23_8, d23_9, d23_10, d23_11, d23_12, d23_13⟩ := cq14 BK249.out
      obtain ⟨e23_0, e23_1, e23_2, e23_3, e23_4, e23_5, e23_6, e23_7, e23_8, e23_9, e23_10, e23_11, e23_12, e23_13⟩ := fq14 BK249.out
      go_wp2_with (first | (go_at_call 35; (with_reducible refine (zbi.calls k a0_1 a0_2 a0_3 true _ A10.out).mono ?_); rintro e w24 ⟨rfl, hb⟩; have n0_ := zae.mk (zau (g := gb249) (o := .cells #[.int .i64 a0_0, .int .i64 a0_1, .int .i64 a0_2, .string a0_3, .int .i64 a0_4, .int .i64 a0_5, .int .i64 a0_6, .int .i64 a0_7, .string a0_8, .int .i64 a0_9, .slice A0_10 l0_10.length c0_10, .slice A0_11 l0_11.length c0_11, .bool false, .string a0_13] 47 (0, 0)) (by (with_reducible repeat (first | refine zai ?_ _ | refine zak ?_ | refine zaj ?_ _)); refine zb7 ?_ NB249_250.out _; (with_reducible repeat (first | refine zai ?_ _ | refine zak ?_ | refine zaj ?_ _)); refine zb7 ?_ NB249_250.out _; (with_reducible repeat (first | refine zai ?_ _ | refine zak ?_ | refine zaj ?_ _)); refine zb7 ?_ NB249_250.out _; (with_reducible repeat (first | refine zai ?_ _ | refine zak ?_ | refine zaj ?_ _)); exact BK249.out) hb); have n1_ := zae.mk (zau (g := gb250) (o := .cells #[.int .i64 0, .int .i64 0, .string (⟨#[]⟩ : ByteArray)] 38 (0, 0)) (by (with_reducible repeat (first | refine zai ?_ _ | refine zak ?_ | refine zaj ?_ _)); refine pq3 (.int .i64 0) (.int .i64 0) (.string (⟨#[]⟩ : ByteArray)) ?_; (with_reducible repeat (first | refine zai ?_ _ | refine zak ?_ | refine zaj ?_ _)); exact BK250.out) hb); have n2_ := zae.mk (zaq (by repeat with_reducible first | exact HB.out | apply zad | apply zaa | apply zac | refine zag ?_ GE249.out | refine zag ?_ GE250.out) hb); clear BK249; clear BK250; clear HB; have BK249 := n0_; have BK250 := n1_; have HB := n2_; clear n0_ n1_ n2_; (try clear hb); (try clear hb2); (try clear hk); (try clear hi); obtain ⟨d25_0, d25_1, d25_2, d25_3, d25_4, d25_5, d25_6, d25_7, d25_8, d25_9, d25_10, d25_11, d25_12, d25_13⟩ := cq14 BK249.out; obtain ⟨e25_0, e25_1, e25_2, e25_3, e25_4, e25_5, e25_6, e25_7, e25_8, e25_9, e25_10, e25_11, e25_12, e25_13⟩ := fq14 BK249.out))
      go_meet
      case rel => exact ⟨_, ((a0_13.toList != ([] : List UInt8))), (by first | rfl | (simp; done) | (simp [*]; done) | (simp [*]; cases a0_13.toList <;> rfl)), H', ⟨by first | omega | exact Nat.le_refl _⟩, ⟨by (with_reducible repeat (first | refine zai ?_ _ | refine zak ?_ | refine zaj ?_ _)); exact BK249.out⟩, ⟨by (with_reducible repeat (first | refine zai ?_ _ | refine zak ?_ | refine zaj ?_ _)); exact BK250.out⟩, ⟨by repeat with_reducible first | exact HB.out | apply zad | apply zaa | apply zac | refine zag ?_ GE249.out | refine zag ?_ GE250.out⟩⟩
   ·replace c11 := Bool.eq_false_iff.mpr c11
    subst c11
    have H1 : (zao.j0 k true a0_0 a0_1 a0_2 a0_3 a0_4 a0_5 a0_6 a0_7 a0_8 a0_9 l0_10 l0_11 a0_12 a0_13 0 0 (⟨#[]⟩ : ByteArray)) = some r := by rw [if_neg (show ¬ (false = true) by decide)] at H; exact H
    clear H
    have H := H1
    clear H1
    have H' := zae.mk H
    clear H
    have hnb26 := NB249_250.out
    have hnc26 := NB250_249.out
    obtain ⟨d27_0, d27_1, d27_2, d27_3, d27_4, d27_5, d27_6, d27_7, d27_8, d27_9, d27_10, d27_11, d27_12, d27_13⟩ := cq14 BK249.out
    obtain ⟨e27_0, e27_1, e27_2, e27_3, e27_4, e27_5, e27_6, e27_7, e27_8, e27_9, e27_10, e27_11, e27_12, e27_13⟩ := fq14 BK249.out
    go_wp2_with (first | (go_at_call 35; (with_reducible refine (zbi.calls k a0_1 a0_2 a0_3 false _ A10.out).mono ?_); rintro e w28 ⟨rfl, hb⟩; have n0_ := zae.mk (zau (g := gb249) (o := .cells #[.int .i64 a0_0, .int .i64 a0_1, .int .i64 a0_2, .string a0_3, .int .i64 a0_4, .int .i64 a0_5, .int .i64 a0_6, .int .i64 a0_7, .string a0_8, .int .i64 a0_9, .slice A0_10 l0_10.length c0_10, .slice A0_11 l0_11.length c0_11, .bool a0_12, .string a0_13] 47 (0, 0)) (by (with_reducible repeat (first | refine zai ?_ _ | refine zak ?_ | refine zaj ?_ _)); refine zb7 ?_ NB249_250.out _; (with_reducible repeat (first | refine zai ?_ _ | refine zak ?_ | refine zaj ?_ _)); refine zb7 ?_ NB249_250.out _; (with_reducible repeat (first | refine zai ?_ _ | refine zak ?_ | refine zaj ?_ _)); refine zb7 ?_ NB249_250.out _; (with_reducible repeat (first | refine zai ?_ _ | refine zak ?_ | refine zaj ?_ _)); exact BK249.out) hb); have n1_ := zae.mk (zau (g := gb250) (o := .cells #[.int .i64 0, .int .i64 0, .string (⟨#[]⟩ : ByteArray)] 38 (0, 0)) (by (with_reducible repeat (first | refine zai ?_ _ | refine zak ?_ | refine zaj ?_ _)); refine pq3 (.int .i64 0) (.int .i64 0) (.string (⟨#[]⟩ : ByteArray)) ?_; (with_reducible repeat (first | refine zai ?_ _ | refine zak ?_ | refine zaj ?_ _)); exact BK250.out) hb); have n2_ := zae.mk (zaq (by repeat with_reducible first | exact HB.out | apply zad | apply zaa | apply zac | refine zag ?_ GE249.out | refine zag ?_ GE250.out) hb); clear BK249; clear BK250; clear HB; have BK249 := n0_; have BK250 := n1_; have HB := n2_; clear n0_ n1_ n2_; (try clear hb); (try clear hb2); (try clear hk); (try clear hi)))
    go_meet
    case rel => exact ⟨_, (true), (by first | rfl | (simp; done) | (simp [*]; done)), H', ⟨by first | omega | exact Nat.le_refl _⟩, ⟨by (with_reducible repeat (first | refine zai ?_ _ | refine zak ?_ | refine zaj ?_ _)); exact BK249.out⟩, ⟨by (with_reducible repeat (first | refine zai ?_ _ | refine zak ?_ | refine zaj ?_ _)); exact BK250.out⟩, ⟨by repeat with_reducible first | exact HB.out | apply zad | apply zaa | apply zac | refine zag ?_ GE249.out | refine zag ?_ GE250.out⟩⟩
 case rest =>
  clear HC2
  try clear c1
  try clear c2
  try clear p2
  try clear c5
  try clear c7
  try clear c7b0
  try clear c8
  try clear c11
  try clear c12
  try clear c12b0
  try clear c12b1
  try clear c13
  try clear c17
  try clear c18
  try clear c22
  try clear c26
  try clear d14_0 d14_1 d14_10 d14_11 d14_12 d14_13 d14_2 d14_3 d14_4 d14_5 d14_6 d14_7 d14_8 d14_9
  try clear d16_0 d16_1 d16_10 d16_11 d16_12 d16_13 d16_2 d16_3 d16_4 d16_5 d16_6 d16_7 d16_8 d16_9
  try clear d19_0 d19_1 d19_10 d19_11 d19_12 d19_13 d19_2 d19_3 d19_4 d19_5 d19_6 d19_7 d19_8 d19_9
  try clear d21_0 d21_1 d21_10 d21_11 d21_12 d21_13 d21_2 d21_3 d21_4 d21_5 d21_6 d21_7 d21_8 d21_9
  try clear d23_0 d23_1 d23_10 d23_11 d23_12 d23_13 d23_2 d23_3 d23_4 d23_5 d23_6 d23_7 d23_8 d23_9
  try clear d25_0 d25_1 d25_10 d25_11 d25_12 d25_13 d25_2 d25_3 d25_4 d25_5 d25_6 d25_7 d25_8 d25_9
  try clear d27_0 d27_1 d27_10 d27_11 d27_12 d27_13 d27_2 d27_3 d27_4 d27_5 d27_6 d27_7 d27_8 d27_9
  try clear d6_0 d6_1 d6_2
  try clear d9_0 d9_1 d9_10 d9_11 d9_12 d9_13 d9_2 d9_3 d9_4 d9_5 d9_6 d9_7 d9_8 d9_9
  try clear e14_0 e14_1 e14_10 e14_11 e14_12 e14_13 e14_2 e14_3 e14_4 e14_5 e14_6 e14_7 e14_8 e14_9
  try clear e16_0 e16_1 e16_10 e16_11 e16_12 e16_13 e16_2 e16_3 e16_4 e16_5 e16_6 e16_7 e16_8 e16_9
  try clear e19_0 e19_1 e19_10 e19_11 e19_12 e19_13 e19_2 e19_3 e19_4 e19_5 e19_6 e19_7 e19_8 e19_9
  try clear e21_0 e21_1 e21_10 e21_11 e21_12 e21_13 e21_2 e21_3 e21_4 e21_5 e21_6 e21_7 e21_8 e21_9
  try clear e23_0 e23_1 e23_10 e23_11 e23_12 e23_13 e23_2 e23_3 e23_4 e23_5 e23_6 e23_7 e23_8 e23_9
  try clear e25_0 e25_1 e25_10 e25_11 e25_12 e25_13 e25_2 e25_3 e25_4 e25_5 e25_6 e25_7 e25_8 e25_9
  try clear e27_0 e27_1 e27_10 e27_11 e27_12 e27_13 e27_2 e27_3 e27_4 e27_5 e27_6 e27_7 e27_8 e27_9
  try clear e6_0 e6_1 e6_2
  try clear e9_0 e9_1 e9_10 e9_11 e9_12 e9_13 e9_2 e9_3 e9_4 e9_5 e9_6 e9_7 e9_8 e9_9
  obtain ⟨kq, x31_1, rfl, HA, HJ1, BK249, BK250, HB⟩ := hcut
  cases kq with
  | zero => exact absurd HA.out (by simp [zao.j0])
  | succ kj1 =>
   have H := HA.out
   clear HA
   simp only [zao.j0] at H
   by_cases c29 : x31_1 = true
   ·subst c29
    have H1 : (some false) = some r := by rw [if_pos rfl] at H; exact H
    clear H
    have H := H1
    clear H1
    obtain rfl := Option.some.inj H
    go_wp2
    go_ret
    exact ⟨by first | rfl | (simp [zam, zal] <;> rfl) | (simp [*, zam, zal] <;> rfl), by repeat with_reducible first | exact HB.out | apply zad | apply zaa | apply zac | refine zag ?_ GE249.out | refine zag ?_ GE250.out⟩
   ·replace c29 := Bool.eq_false_iff.mpr c29
    subst c29
    have H1 : (zao.l0 kj1 0 a0_0 a0_1 a0_2 a0_3 a0_4 a0_5 a0_6 a0_7 a0_8 a0_9 l0_10 l0_11 a0_12 a0_13 0 0 (⟨#[]⟩ : ByteArray)) = some r := by rw [if_neg (show ¬ (false = true) by decide)] at H; exact H
    clear H
    have H := H1
    clear H1
    have H' := zae.mk H
    clear H
    go_wp2
    go_loopg [4] kj1 (fun kq v4 w' => ∃ (x4_2 : Int), v4 = .int .i64 x4_2 ∧ zae (zao.l0 kq x4_2 a0_0 a0_1 a0_2 a0_3 a0_4 a0_5 a0_6 a0_7 a0_8 a0_9 l0_10 l0_11 a0_12 a0_13 0 0 (⟨#[]⟩ : ByteArray) = some r) ∧ zae (kq ≤ kj1) ∧ zae (w'.heap[gb249]? = some (.cells #[.int .i64 a0_0, .int .i64 a0_1, .int .i64 a0_2, .string a0_3, .int .i64 a0_4, .int .i64 a0_5, .int .i64 a0_6, .int .i64 a0_7, .string a0_8, .int .i64 a0_9, (.slice A0_10 l0_10.length c0_10), (.slice A0_11 l0_11.length c0_11), .bool a0_12, .string a0_13] 47 (0, 0))) ∧ zae (w'.heap[gb250]? = some (.cells #[.int .i64 0, .int .i64 0, .string (⟨#[]⟩ : ByteArray)] 38 (0, 0))) ∧ zae (Below w.heap.size w w'))
    case atStart => exact ⟨(0), (by first | rfl | (simp; done) | (simp [*]; done)), H', ⟨Nat.le_refl _⟩, ⟨by (with_reducible repeat (first | refine zai ?_ _ | refine zak ?_ | refine zaj ?_ _)); exact BK249.out⟩, ⟨by (with_reducible repeat (first | refine zai ?_ _ | refine zak ?_ | refine zaj ?_ _)); exact BK250.out⟩, ⟨by repeat with_reducible first | exact HB.out | apply zad | apply zaa | apply zac | refine zag ?_ GE249.out | refine zag ?_ GE250.out⟩⟩
    case round =>
     clear H'
     try clear c1
     try clear c2
     try clear p2 p2
     try clear c5
     try clear c7
     try clear c7b0
     try clear c8
     try clear c11
     try clear c12
     try clear c12b0
     try clear c12b1
     try clear c13
     try clear c17
     try clear c18
     try clear c22
     try clear c26
     try clear c29
     try clear d14_0 d14_1 d14_10 d14_11 d14_12 d14_13 d14_2 d14_3 d14_4 d14_5 d14_6 d14_7 d14_8 d14_9
     try clear d16_0 d16_1 d16_10 d16_11 d16_12 d16_13 d16_2 d16_3 d16_4 d16_5 d16_6 d16_7 d16_8 d16_9
     try clear d19_0 d19_1 d19_10 d19_11 d19_12 d19_13 d19_2 d19_3 d19_4 d19_5 d19_6 d19_7 d19_8 d19_9
     try clear d21_0 d21_1 d21_10 d21_11 d21_12 d21_13 d21_2 d21_3 d21_4 d21_5 d21_6 d21_7 d21_8 d21_9
     try clear d23_0 d23_1 d23_10 d23_11 d23_12 d23_13 d23_2 d23_3 d23_4 d23_5 d23_6 d23_7 d23_8 d23_9
     try clear d25_0 d25_1 d25_10 d25_11 d25_12 d25_13 d25_2 d25_3 d25_4 d25_5 d25_6 d25_7 d25_8 d25_9
     try clear d27_0 d27_1 d27_10 d27_11 d27_12 d27_13 d27_2 d27_3 d27_4 d27_5 d27_6 d27_7 d27_8 d27_9
     try clear d6_0 d6_1 d6_2
     try clear d9_0 d9_1 d9_10 d9_11 d9_12 d9_13 d9_2 d9_3 d9_4 d9_5 d9_6 d9_7 d9_8 d9_9
     try clear e14_0 e14_1 e14_10 e14_11 e14_12 e14_13 e14_2 e14_3 e14_4 e14_5 e14_6 e14_7 e14_8 e14_9
     try clear e16_0 e16_1 e16_10 e16_11 e16_12 e16_13 e16_2 e16_3 e16_4 e16_5 e16_6 e16_7 e16_8 e16_9
     try clear e19_0 e19_1 e19_10 e19_11 e19_12 e19_13 e19_2 e19_3 e19_4 e19_5 e19_6 e19_7 e19_8 e19_9
     try clear e21_0 e21_1 e21_10 e21_11 e21_12 e21_13 e21_2 e21_3 e21_4 e21_5 e21_6 e21_7 e21_8 e21_9
     try clear e23_0 e23_1 e23_10 e23_11 e23_12 e23_13 e23_2 e23_3 e23_4 e23_5 e23_6 e23_7 e23_8 e23_9
     try clear e25_0 e25_1 e25_10 e25_11 e25_12 e25_13 e25_2 e25_3 e25_4 e25_5 e25_6 e25_7 e25_8 e25_9
     try clear e27_0 e27_1 e27_10 e27_11 e27_12 e27_13 e27_2 e27_3 e27_4 e27_5 e27_6 e27_7 e27_8 e27_9
     try clear e6_0 e6_1 e6_2
     try clear e9_0 e9_1 e9_10 e9_11 e9_12 e9_13 e9_2 e9_3 e9_4 e9_5 e9_6 e9_7 e9_8 e9_9
     obtain ⟨x4_2, rfl, HA, HK2, BK249, BK250, HB⟩ := hrel
     cases gk with
     | zero => exact absurd HA.out (by simp [zao.l0])
     | succ k2 =>
      have H := HA.out
      clear HA
      simp only [zao.l0] at H
      by_cases c30 : x4_2 < (a0_13.size : Int)
      ·rw [if_pos c30] at H
       have c30b0 : decide (x4_2 < (a0_13.size : Int)) = true := decide_eq_true c30
       clear c30
       by_cases c31 : 0 ≤ x4_2
       ·rw [if_pos c31] at H
        have c31b0 : decide (0 ≤ x4_2) = true := decide_eq_true c31
        clear c31
        by_cases c33 : (bt a0_13 x4_2) = 10
        ·rw [if_pos c33] at H
         have c33b0 : ((bt a0_13 x4_2) == 10) = true := beq_iff_eq.mpr c33
         have c33b1 : ((bt a0_13 x4_2) != 10) = false := bne_eq_false_iff_eq.mpr c33
         clear c33
         obtain rfl := Option.some.inj H
         have hnb34 := NB249_250.out
         have hnc34 := NB250_249.out
         obtain ⟨d35_0, d35_1, d35_2, d35_3, d35_4, d35_5, d35_6, d35_7, d35_8, d35_9, d35_10, d35_11, d35_12, d35_13⟩ := cq14 BK249.out
         obtain ⟨e35_0, e35_1, e35_2, e35_3, e35_4, e35_5, e35_6, e35_7, e35_8, e35_9, e35_10, e35_11, e35_12, e35_13⟩ := fq14 BK249.out
         have p32 : 0 ≤ (x4_2 : Int) := of_decide_eq_true (by first | (with_reducible assumption) | assumption)
         have q32 : x4_2 < (a0_13.size : Int) := of_decide_eq_true (by first | (with_reducible assumption) | assumption)
         have hx32 := bt_at a0_13 x4_2
         replace p32 := eq_true p32
         replace q32 := eq_true q32
         go_wp2
         go_ret
         exact ⟨by first | rfl | (simp [zam, zal] <;> rfl) | (simp [*, zam, zal] <;> rfl), by repeat with_reducible first | exact HB.out | apply zad | apply zaa | apply zac | refine zag ?_ GE249.out | refine zag ?_ GE250.out⟩
        ·rw [if_neg c33] at H
         have c33b0 : ((bt a0_13 x4_2) == 10) = false := beq_eq_false_iff_ne.mpr c33
         have c33b1 : ((bt a0_13 x4_2) != 10) = true := bne_iff_ne.mpr c33
         have H' := zae.mk H
         clear H
         have hnb36 := NB249_250.out
         have hnc36 := NB250_249.out
         obtain ⟨d37_0, d37_1, d37_2, d37_3, d37_4, d37_5, d37_6, d37_7, d37_8, d37_9, d37_10, d37_11, d37_12, d37_13⟩ := cq14 BK249.out
         obtain ⟨e37_0, e37_1, e37_2, e37_3, e37_4, e37_5, e37_6, e37_7, e37_8, e37_9, e37_10, e37_11, e37_12, e37_13⟩ := fq14 BK249.out
         have p32 : 0 ≤ (x4_2 : Int) := of_decide_eq_true (by first | (with_reducible assumption) | assumption)
         have q32 : x4_2 < (a0_13.size : Int) := of_decide_eq_true (by first | (with_reducible assumption) | assumption)
         have hx32 := bt_at a0_13 x4_2
         replace p32 := eq_true p32
         replace q32 := eq_true q32
         go_wp2
         go_roundg k2
         case measure => have := HJ1.out; have := HK2.out; omega
         case rel => exact ⟨(wrap64 (x4_2 + 1)), (by first | rfl | (simp; done) | (simp [*]; done)), H', ⟨by have := HJ1.out; have := HK2.out; omega⟩, ⟨by (with_reducible repeat (first | refine zai ?_ _ | refine zak ?_ | refine zaj ?_ _)); exact BK249.out⟩, ⟨by (with_reducible repeat (first | refine zai ?_ _ | refine zak ?_ | refine zaj ?_ _)); exact BK250.out⟩, ⟨by repeat with_reducible first | exact HB.out | apply zad | apply zaa | apply zac | refine zag ?_ GE249.out | refine zag ?_ GE250.out⟩⟩
       ·rw [if_neg c31] at H
        exact absurd H (by simp)
      ·rw [if_neg c30] at H
       have c30b0 : decide (x4_2 < (a0_13.size : Int)) = false := decide_eq_false c30
       clear c30
       by_cases c38 : a0_4 = 1
       ·rw [if_pos c38] at H
        have c38b0 : (a0_4 == 1) = true := beq_iff_eq.mpr c38
        have c38b1 : (a0_4 != 1) = false := bne_eq_false_iff_eq.mpr c38
        clear c38
        replace H := Option.bind_eq_some_iff.mp H
        obtain ⟨t252, A390, H⟩ := H
        replace H : (if t252 = true then ((zbi.f k2 a0_6 a0_7 a0_8).bind fun t253 => (if t253 = true then (some ((l0_11.length : Int) == 0)) else (some false))) else (some false)) = some r := H
        have A39 := zae.mk A390
        clear A390
        by_cases c40 : t252 = true
        ·subst c40
         have H1 : ((zbi.f k2 a0_6 a0_7 a0_8).bind fun t253 => (if t253 = true then (some ((l0_11.length : Int) == 0)) else (some false))) = some r := by rw [if_pos rfl] at H; exact H
         clear H
         have H := H1
         clear H1
         replace H := Option.bind_eq_some_iff.mp H
         obtain ⟨t253, A410, H⟩ := H
         replace H : (if t253 = true then (some ((l0_11.length : Int) == 0)) else (some false)) = some r := H
         have A41 := zae.mk A410
         clear A410
         by_cases c42 : t253 = true
         ·subst c42
          have H1 : (some ((l0_11.length : Int) == 0)) = some r := by rw [if_pos rfl] at H; exact H
          clear H
          have H := H1
          clear H1
          obtain rfl := Option.some.inj H
          have hnb43 := NB249_250.out
          have hnc43 := NB250_249.out
          obtain ⟨d44_0, d44_1, d44_2, d44_3, d44_4, d44_5, d44_6, d44_7, d44_8, d44_9, d44_10, d44_11, d44_12, d44_13⟩ := cq14 BK249.out
          obtain ⟨e44_0, e44_1, e44_2, e44_3, e44_4, e44_5, e44_6, e44_7, e44_8, e44_9, e44_10, e44_11, e44_12, e44_13⟩ := fq14 BK249.out
          go_wp2_with (first | ((with_reducible refine za3 (f := 36) rfl ?_); refine zbv (some 53) rfl rfl Tryd.func36 (by kernel_rfl) rfl #[.int .i64 a0_5, .int .i64 a0_9, .slice A0_10 l0_10.length c0_10] rfl (by (try simp only [List.map_toArray, List.map_cons, List.map_nil]); first | done | rfl | (simp only [List.length_drop, List.length_take]; rfl)) ?_; (with_reducible refine (zaw.calls k2 a0_5 a0_9 _ _ l0_10 true _ ?side1 ?side2 A39.out).mono ?_); (case side1 => repeat (first | exact (Kd.zbk HR0_10.out HB.out) | (with_reducible refine Kd.zbx ?_ _) | (with_reducible refine Kd.C_drewN ?_ _) | (with_reducible refine Kd.C_drew ?_))); (case side2 => exact HC0_10.out); rintro e w45 ⟨rfl, hb⟩; refine ⟨_, rfl, ?_⟩; have n0_ := zae.mk (zau (g := gb249) (o := .cells #[.int .i64 a0_0, .int .i64 a0_1, .int .i64 a0_2, .string a0_3, .int .i64 a0_4, .int .i64 a0_5, .int .i64 a0_6, .int .i64 a0_7, .string a0_8, .int .i64 a0_9, .slice A0_10 l0_10.length c0_10, .slice A0_11 l0_11.length c0_11, .bool a0_12, .string a0_13] 47 (0, 0)) (by (with_reducible repeat (first | refine zai ?_ _ | refine zak ?_ | refine zaj ?_ _)); exact BK249.out) hb); have n1_ := zae.mk (zau (g := gb250) (o := .cells #[.int .i64 0, .int .i64 0, .string (⟨#[]⟩ : ByteArray)] 38 (0, 0)) (by (with_reducible repeat (first | refine zai ?_ _ | refine zak ?_ | refine zaj ?_ _)); exact BK250.out) hb); have n2_ := zae.mk (zaq (by repeat with_reducible first | exact HB.out | apply zad | apply zaa | apply zac | refine zag ?_ GE249.out | refine zag ?_ GE250.out) hb); clear BK249; clear BK250; clear HB; have BK249 := n0_; have BK250 := n1_; have HB := n2_; clear n0_ n1_ n2_; (try clear hb); (try clear hb2); (try clear hk); (try clear hi); obtain ⟨d46_0, d46_1, d46_2, d46_3, d46_4, d46_5, d46_6, d46_7, d46_8, d46_9, d46_10, d46_11, d46_12, d46_13⟩ := cq14 BK249.out; obtain ⟨e46_0, e46_1, e46_2, e46_3, e46_4, e46_5, e46_6, e46_7, e46_8, e46_9, e46_10, e46_11, e46_12, e46_13⟩ := fq14 BK249.out) | (go_at_call 35; (with_reducible refine (zbi.calls k2 a0_6 a0_7 a0_8 true _ A41.out).mono ?_); rintro e w47 ⟨rfl, hb⟩; have n0_ := zae.mk (zau (g := gb249) (o := .cells #[.int .i64 a0_0, .int .i64 a0_1, .int .i64 a0_2, .string a0_3, .int .i64 a0_4, .int .i64 a0_5, .int .i64 a0_6, .int .i64 a0_7, .string a0_8, .int .i64 a0_9, .slice A0_10 l0_10.length c0_10, .slice A0_11 l0_11.length c0_11, .bool a0_12, .string a0_13] 47 (0, 0)) (by (with_reducible repeat (first | refine zai ?_ _ | refine zak ?_ | refine zaj ?_ _)); exact BK249.out) hb); have n1_ := zae.mk (zau (g := gb250) (o := .cells #[.int .i64 0, .int .i64 0, .string (⟨#[]⟩ : ByteArray)] 38 (0, 0)) (by (with_reducible repeat (first | refine zai ?_ _ | refine zak ?_ | refine zaj ?_ _)); exact BK250.out) hb); have n2_ := zae.mk (zaq (by repeat with_reducible first | exact HB.out | apply zad | apply zaa | apply zac | refine zag ?_ GE249.out | refine zag ?_ GE250.out) hb); clear BK249; clear BK250; clear HB; have BK249 := n0_; have BK250 := n1_; have HB := n2_; clear n0_ n1_ n2_; (try clear hb); (try clear hb2); (try clear hk); (try clear hi); obtain ⟨d48_0, d48_1, d48_2, d48_3, d48_4, d48_5, d48_6, d48_7, d48_8, d48_9, d48_10, d48_11, d48_12, d48_13⟩ := cq14 BK249.out; obtain ⟨e48_0, e48_1, e48_2, e48_3, e48_4, e48_5, e48_6, e48_7, e48_8, e48_9, e48_10, e48_11, e48_12, e48_13⟩ := fq14 BK249.out))
          go_ret
          exact ⟨by first | rfl | (simp [zam, zal] <;> rfl) | (simp [*, zam, zal] <;> rfl), by repeat with_reducible first | exact HB.out | apply zad | apply zaa | apply zac | refine zag ?_ GE249.out | refine zag ?_ GE250.out⟩
         ·replace c42 := Bool.eq_false_iff.mpr c42
          subst c42
          have H1 : (some false) = some r := by rw [if_neg (show ¬ (false = true) by decide)] at H; exact H
          clear H
          have H := H1
          clear H1
          obtain rfl := Option.some.inj H
          have hnb49 := NB249_250.out
          have hnc49 := NB250_249.out
          obtain ⟨d50_0, d50_1, d50_2, d50_3, d50_4, d50_5, d50_6, d50_7, d50_8, d50_9, d50_10, d50_11, d50_12, d50_13⟩ := cq14 BK249.out
          obtain ⟨e50_0, e50_1, e50_2, e50_3, e50_4, e50_5, e50_6, e50_7, e50_8, e50_9, e50_10, e50_11, e50_12, e50_13⟩ := fq14 BK249.out
          go_wp2_with (first | ((with_reducible refine za3 (f := 36) rfl ?_); refine zbv (some 53) rfl rfl Tryd.func36 (by kernel_rfl) rfl #[.int .i64 a0_5, .int .i64 a0_9, .slice A0_10 l0_10.length c0_10] rfl (by (try simp only [List.map_toArray, List.map_cons, List.map_nil]); first | done | rfl | (simp only [List.length_drop, List.length_take]; rfl)) ?_; (with_reducible refine (zaw.calls k2 a0_5 a0_9 _ _ l0_10 true _ ?side1 ?side2 A39.out).mono ?_); (case side1 => repeat (first | exact (Kd.zbk HR0_10.out HB.out) | (with_reducible refine Kd.zbx ?_ _) | (with_reducible refine Kd.C_drewN ?_ _) | (with_reducible refine Kd.C_drew ?_))); (case side2 => exact HC0_10.out); rintro e w51 ⟨rfl, hb⟩; refine ⟨_, rfl, ?_⟩; have n0_ := zae.mk (zau (g := gb249) (o := .cells #[.int .i64 a0_0, .int .i64 a0_1, .int .i64 a0_2, .string a0_3, .int .i64 a0_4, .int .i64 a0_5, .int .i64 a0_6, .int .i64 a0_7, .string a0_8, .int .i64 a0_9, .slice A0_10 l0_10.length c0_10, .slice A0_11 l0_11.length c0_11, .bool a0_12, .string a0_13] 47 (0, 0)) (by (with_reducible repeat (first | refine zai ?_ _ | refine zak ?_ | refine zaj ?_ _)); exact BK249.out) hb); have n1_ := zae.mk (zau (g := gb250) (o := .cells #[.int .i64 0, .int .i64 0, .string (⟨#[]⟩ : ByteArray)] 38 (0, 0)) (by (with_reducible repeat (first | refine zai ?_ _ | refine zak ?_ | refine zaj ?_ _)); exact BK250.out) hb); have n2_ := zae.mk (zaq (by repeat with_reducible first | exact HB.out | apply zad | apply zaa | apply zac | refine zag ?_ GE249.out | refine zag ?_ GE250.out) hb); clear BK249; clear BK250; clear HB; have BK249 := n0_; have BK250 := n1_; have HB := n2_; clear n0_ n1_ n2_; (try clear hb); (try clear hb2); (try clear hk); (try clear hi); obtain ⟨d52_0, d52_1, d52_2, d52_3, d52_4, d52_5, d52_6, d52_7, d52_8, d52_9, d52_10, d52_11, d52_12, d52_13⟩ := cq14 BK249.out; obtain ⟨e52_0, e52_1, e52_2, e52_3, e52_4, e52_5, e52_6, e52_7, e52_8, e52_9, e52_10, e52_11, e52_12, e52_13⟩ := fq14 BK249.out) | (go_at_call 35; (with_reducible refine (zbi.calls k2 a0_6 a0_7 a0_8 false _ A41.out).mono ?_); rintro e w53 ⟨rfl, hb⟩; have n0_ := zae.mk (zau (g := gb249) (o := .cells #[.int .i64 a0_0, .int .i64 a0_1, .int .i64 a0_2, .string a0_3, .int .i64 a0_4, .int .i64 a0_5, .int .i64 a0_6, .int .i64 a0_7, .string a0_8, .int .i64 a0_9, .slice A0_10 l0_10.length c0_10, .slice A0_11 l0_11.length c0_11, .bool a0_12, .string a0_13] 47 (0, 0)) (by (with_reducible repeat (first | refine zai ?_ _ | refine zak ?_ | refine zaj ?_ _)); exact BK249.out) hb); have n1_ := zae.mk (zau (g := gb250) (o := .cells #[.int .i64 0, .int .i64 0, .string (⟨#[]⟩ : ByteArray)] 38 (0, 0)) (by (with_reducible repeat (first | refine zai ?_ _ | refine zak ?_ | refine zaj ?_ _)); exact BK250.out) hb); have n2_ := zae.mk (zaq (by repeat with_reducible first | exact HB.out | apply zad | apply zaa | apply zac | refine zag ?_ GE249.out | refine zag ?_ GE250.out) hb); clear BK249; clear BK250; clear HB; have BK249 := n0_; have BK250 := n1_; have HB := n2_; clear n0_ n1_ n2_; (try clear hb); (try clear hb2); (try clear hk); (try clear hi)))
          go_ret
          exact ⟨by first | rfl | (simp [zam, zal] <;> rfl) | (simp [*, zam, zal] <;> rfl), by repeat with_reducible first | exact HB.out | apply zad | apply zaa | apply zac | refine zag ?_ GE249.out | refine zag ?_ GE250.out⟩
        ·replace c40 := Bool.eq_false_iff.mpr c40
         subst c40
         have H1 : (some false) = some r := by rw [if_neg (show ¬ (false = true) by decide)] at H; exact H
         clear H
         have H := H1
         clear H1
         obtain rfl := Option.some.inj H
         have hnb54 := NB249_250.out
         have hnc54 := NB250_249.out
         obtain ⟨d55_0, d55_1, d55_2, d55_3, d55_4, d55_5, d55_6, d55_7, d55_8, d55_9, d55_10, d55_11, d55_12, d55_13⟩ := cq14 BK249.out
         obtain ⟨e55_0, e55_1, e55_2, e55_3, e55_4, e55_5, e55_6, e55_7, e55_8, e55_9, e55_10, e55_11, e55_12, e55_13⟩ := fq14 BK249.out
         go_wp2_with (first | ((with_reducible refine za3 (f := 36) rfl ?_); refine zbv (some 53) rfl rfl Tryd.func36 (by kernel_rfl) rfl #[.int .i64 a0_5, .int .i64 a0_9, .slice A0_10 l0_10.length c0_10] rfl (by (try simp only [List.map_toArray, List.map_cons, List.map_nil]); first | done | rfl | (simp only [List.length_drop, List.length_take]; rfl)) ?_; (with_reducible refine (zaw.calls k2 a0_5 a0_9 _ _ l0_10 false _ ?side1 ?side2 A39.out).mono ?_); (case side1 => repeat (first | exact (Kd.zbk HR0_10.out HB.out) | (with_reducible refine Kd.zbx ?_ _) | (with_reducible refine Kd.C_drewN ?_ _) | (with_reducible refine Kd.C_drew ?_))); (case side2 => exact HC0_10.out); rintro e w56 ⟨rfl, hb⟩; refine ⟨_, rfl, ?_⟩; have n0_ := zae.mk (zau (g := gb249) (o := .cells #[.int .i64 a0_0, .int .i64 a0_1, .int .i64 a0_2, .string a0_3, .int .i64 a0_4, .int .i64 a0_5, .int .i64 a0_6, .int .i64 a0_7, .string a0_8, .int .i64 a0_9, .slice A0_10 l0_10.length c0_10, .slice A0_11 l0_11.length c0_11, .bool a0_12, .string a0_13] 47 (0, 0)) (by (with_reducible repeat (first | refine zai ?_ _ | refine zak ?_ | refine zaj ?_ _)); exact BK249.out) hb); have n1_ := zae.mk (zau (g := gb250) (o := .cells #[.int .i64 0, .int .i64 0, .string (⟨#[]⟩ : ByteArray)] 38 (0, 0)) (by (with_reducible repeat (first | refine zai ?_ _ | refine zak ?_ | refine zaj ?_ _)); exact BK250.out) hb); have n2_ := zae.mk (zaq (by repeat with_reducible first | exact HB.out | apply zad | apply zaa | apply zac | refine zag ?_ GE249.out | refine zag ?_ GE250.out) hb); clear BK249; clear BK250; clear HB; have BK249 := n0_; have BK250 := n1_; have HB := n2_; clear n0_ n1_ n2_; (try clear hb); (try clear hb2); (try clear hk); (try clear hi)))
         go_ret
         exact ⟨by first | rfl | (simp [zam, zal] <;> rfl) | (simp [*, zam, zal] <;> rfl), by repeat with_reducible first | exact HB.out | apply zad | apply zaa | apply zac | refine zag ?_ GE249.out | refine zag ?_ GE250.out⟩
       ·rw [if_neg c38] at H
        have c38b0 : (a0_4 == 1) = false := beq_eq_false_iff_ne.mpr c38
        have c38b1 : (a0_4 != 1) = true := bne_iff_ne.mpr c38
        have HC57 := zae.mk H
        clear H
        have hnb58 := NB249_250.out
        have hnc58 := NB250_249.out
        obtain ⟨d59_0, d59_1, d59_2, d59_3, d59_4, d59_5, d59_6, d59_7, d59_8, d59_9, d59_10, d59_11, d59_12, d59_13⟩ := cq14 BK249.out
        obtain ⟨e59_0, e59_1, e59_2, e59_3, e59_4, e59_5, e59_6, e59_7, e59_8, e59_9, e59_10, e59_11, e59_12, e59_13⟩ := fq14 BK249.out
        go_upto_region 11 with (fail)
        go_cut [94] (fun v94 wc => ∃ (kq : Nat) (x94_56 : Bool), v94 = .bool x94_56 ∧ zae (zao.j2 kq x94_56 a0_0 a0_1 a0_2 a0_3 a0_4 a0_5 a0_6 a0_7 a0_8 a0_9 l0_10 l0_11 a0_12 a0_13 = some r) ∧ zae (kq ≤ k2) ∧ zae (wc.heap[gb249]? = some (.cells #[.int .i64 a0_0, .int .i64 a0_1, .int .i64 a0_2, .string a0_3, .int .i64 a0_4, .int .i64 a0_5, .int .i64 a0_6, .int .i64 a0_7, .string a0_8, .int .i64 a0_9, (.slice A0_10 l0_10.length c0_10), (.slice A0_11 l0_11.length c0_11), .bool a0_12, .string a0_13] 47 (0, 0))) ∧ zae (wc.heap[gb250]? = some (.cells #[.int .i64 0, .int .i64 0, .string (⟨#[]⟩ : ByteArray)] 38 (0, 0))) ∧ zae (Below w.heap.size w wc))
        case first =>
         have H := HC57.out
         clear HC57
         by_cases c60 : a0_4 < 2
         ·rw [if_pos c60] at H
          have c60b0 : decide (a0_4 < 2) = true := decide_eq_true c60
          clear c60
          (first | rw [c60b0] | (simp only [i64_w]; rw [c60b0]) | skip)
          have H' := zae.mk H
          clear H
          have hnb61 := NB249_250.out
          have hnc61 := NB250_249.out
          obtain ⟨d62_0, d62_1, d62_2, d62_3, d62_4, d62_5, d62_6, d62_7, d62_8, d62_9, d62_10, d62_11, d62_12, d62_13⟩ := cq14 BK249.out
          obtain ⟨e62_0, e62_1, e62_2, e62_3, e62_4, e62_5, e62_6, e62_7, e62_8, e62_9, e62_10, e62_11, e62_12, e62_13⟩ := fq14 BK249.out
          go_wp2
          go_meet
          case rel => exact ⟨_, (true), (by first | rfl | (simp; done) | (simp [*]; done)), H', ⟨by have := HJ1.out; have := HK2.out; first | omega | exact Nat.le_refl _⟩, ⟨by (with_reducible repeat (first | refine zai ?_ _ | refine zak ?_ | refine zaj ?_ _)); exact BK249.out⟩, ⟨by (with_reducible repeat (first | refine zai ?_ _ | refine zak ?_ | refine zaj ?_ _)); exact BK250.out⟩, ⟨by repeat with_reducible first | exact HB.out | apply zad | apply zaa | apply zac | refine zag ?_ GE249.out | refine zag ?_ GE250.out⟩⟩
         ·rw [if_neg c60] at H
          have c60b0 : decide (a0_4 < 2) = false := decide_eq_false c60
          clear c60
          (first | rw [c60b0] | (simp only [i64_w]; rw [c60b0]) | skip)
          by_cases c63 : a0_4 > 4
          ·rw [if_pos c63] at H
           have c63b0 : decide (4 < a0_4) = true := decide_eq_true c63
           clear c63
           have H' := zae.mk H
           clear H
           have hnb64 := NB249_250.out
           have hnc64 := NB250_249.out
           obtain ⟨d65_0, d65_1, d65_2, d65_3, d65_4, d65_5, d65_6, d65_7, d65_8, d65_9, d65_10, d65_11, d65_12, d65_13⟩ := cq14 BK249.out
           obtain ⟨e65_0, e65_1, e65_2, e65_3, e65_4, e65_5, e65_6, e65_7, e65_8, e65_9, e65_10, e65_11, e65_12, e65_13⟩ := fq14 BK249.out
           go_wp2
           go_meet
           case rel => exact ⟨_, (true), (by first | rfl | (simp; done) | (simp [*]; done)), H', ⟨by have := HJ1.out; have := HK2.out; first | omega | exact Nat.le_refl _⟩, ⟨by (with_reducible repeat (first | refine zai ?_ _ | refine zak ?_ | refine zaj ?_ _)); exact BK249.out⟩, ⟨by (with_reducible repeat (first | refine zai ?_ _ | refine zak ?_ | refine zaj ?_ _)); exact BK250.out⟩, ⟨by repeat with_reducible first | exact HB.out | apply zad | apply zaa | apply zac | refine zag ?_ GE249.out | refine zag ?_ GE250.out⟩⟩
          ·rw [if_neg c63] at H
           have c63b0 : decide (4 < a0_4) = false := decide_eq_false c63
           clear c63
           by_cases c66 : a0_5 = 0
           ·rw [if_pos c66] at H
            have c66b0 : (a0_5 == 0) = true := beq_iff_eq.mpr c66
            have c66b1 : (a0_5 != 0) = false := bne_eq_false_iff_eq.mpr c66
            clear c66
            by_cases c67 : a0_9 = 0
            ·rw [if_pos c67] at H
             have c67b0 : (a0_9 == 0) = true := beq_iff_eq.mpr c67
             have c67b1 : (a0_9 != 0) = false := bne_eq_false_iff_eq.mpr c67
             clear c67
             by_cases c68 : (!(a0_6 == 0) || (!(a0_7 == 0) || (!(a0_8.toList == (⟨#[]⟩ : ByteArray).toList)))) = true
             ·rw [if_pos c68] at H
              obtain ⟨bt, hbt⟩ : ∃ bt : Bool, (a0_6 == 0 && (a0_7 == 0 && a0_8.toList.isEmpty)) = bt := ⟨_, rfl⟩
              have hbv : bt = false := by rw [← hbt]; revert c68; rw [show (⟨#[]⟩ : ByteArray).toList = [] from by first | (simp; done) | kernel_rfl]; cases (a0_6 == 0) <;> cases (a0_7 == 0) <;> cases a0_8.toList <;> simp
              clear c68
              have H' := zae.mk H
              clear H
              have hnb69 := NB249_250.out
              have hnc69 := NB250_249.out
              obtain ⟨d70_0, d70_1, d70_2, d70_3, d70_4, d70_5, d70_6, d70_7, d70_8, d70_9, d70_10, d70_11, d70_12, d70_13⟩ := cq14 BK249.out
              obtain ⟨e70_0, e70_1, e70_2, e70_3, e70_4, e70_5, e70_6, e70_7, e70_8, e70_9, e70_10, e70_11, e70_12, e70_13⟩ := fq14 BK249.out
              obtain ⟨d71_0, d71_1, d71_2⟩ := cq3 BK250.out
              obtain ⟨e71_0, e71_1, e71_2⟩ := fq3 BK250.out
              go_wp2
              go_meet
              case rel => exact ⟨_, (true), (by first | rfl | (simp; done) | (simp [*]; done)), H', ⟨by have := HJ1.out; have := HK2.out; first | omega | exact Nat.le_refl _⟩, ⟨by (with_reducible repeat (first | refine zai ?_ _ | refine zak ?_ | refine zaj ?_ _)); exact BK249.out⟩, ⟨by (with_reducible repeat (first | refine zai ?_ _ | refine zak ?_ | refine zaj ?_ _)); exact BK250.out⟩, ⟨by repeat with_reducible first | exact HB.out | apply zad | apply zaa | apply zac | refine zag ?_ GE249.out | refine zag ?_ GE250.out⟩⟩
             ·rw [if_neg c68] at H
              obtain ⟨bt, hbt⟩ : ∃ bt : Bool, (a0_6 == 0 && (a0_7 == 0 && a0_8.toList.isEmpty)) = bt := ⟨_, rfl⟩
              have hbv : bt = true := by rw [← hbt]; revert c68; rw [show (⟨#[]⟩ : ByteArray).toList = [] from by first | (simp; done) | kernel_rfl]; cases (a0_6 == 0) <;> cases (a0_7 == 0) <;> cases a0_8.toList <;> simp
              clear c68
              have H' := zae.mk H
              clear H
              have hnb72 := NB249_250.out
              have hnc72 := NB250_249.out
              obtain ⟨d73_0, d73_1, d73_2, d73_3, d73_4, d73_5, d73_6, d73_7, d73_8, d73_9, d73_10, d73_11, d73_12, d73_13⟩ := cq14 BK249.out
              obtain ⟨e73_0, e73_1, e73_2, e73_3, e73_4, e73_5, e73_6, e73_7, e73_8, e73_9, e73_10, e73_11, e73_12, e73_13⟩ := fq14 BK249.out
              obtain ⟨d74_0, d74_1, d74_2⟩ := cq3 BK250.out
              obtain ⟨e74_0, e74_1, e74_2⟩ := fq3 BK250.out
              go_wp2
              go_meet
              case rel => exact ⟨_, (decide ((l0_10.length : Int) > 0)), (by first | rfl | (simp; done) | (simp [*]; done)), H', ⟨by have := HJ1.out; have := HK2.out; first | omega | exact Nat.le_refl _⟩, ⟨by (with_reducible repeat (first | refine zai ?_ _ | refine zak ?_ | refine zaj ?_ _)); exact BK249.out⟩, ⟨by (with_reducible repeat (first | refine zai ?_ _ | refine zak ?_ | refine zaj ?_ _)); exact BK250.out⟩, ⟨by repeat with_reducible first | exact HB.out | apply zad | apply zaa | apply zac | refine zag ?_ GE249.out | refine zag ?_ GE250.out⟩⟩
            ·rw [if_neg c67] at H
             have c67b0 : (a0_9 == 0) = false := beq_eq_false_iff_ne.mpr c67
             have c67b1 : (a0_9 != 0) = true := bne_iff_ne.mpr c67
             have H' := zae.mk H
             clear H
             have hnb75 := NB249_250.out
             have hnc75 := NB250_249.out
             obtain ⟨d76_0, d76_1, d76_2, d76_3, d76_4, d76_5, d76_6, d76_7, d76_8, d76_9, d76_10, d76_11, d76_12, d76_13⟩ := cq14 BK249.out
             obtain ⟨e76_0, e76_1, e76_2, e76_3, e76_4, e76_5, e76_6, e76_7, e76_8, e76_9, e76_10, e76_11, e76_12, e76_13⟩ := fq14 BK249.out
             go_wp2
             go_meet
             case rel => exact ⟨_, (true), (by first | rfl | (simp; done) | (simp [*]; done)), H', ⟨by have := HJ1.out; have := HK2.out; first | omega | exact Nat.le_refl _⟩, ⟨by (with_reducible repeat (first | refine zai ?_ _ | refine zak ?_ | refine zaj ?_ _)); exact BK249.out⟩, ⟨by (with_reducible repeat (first | refine zai ?_ _ | refine zak ?_ | refine zaj ?_ _)); exact BK250.out⟩, ⟨by repeat with_reducible first | exact HB.out | apply zad | apply zaa | apply zac | refine zag ?_ GE249.out | refine zag ?_ GE250.out⟩⟩
           ·rw [if_neg c66] at H
            have c66b0 : (a0_5 == 0) = false := beq_eq_false_iff_ne.mpr c66
            have c66b1 : (a0_5 != 0) = true := bne_iff_ne.mpr c66
            have H' := zae.mk H
            clear H
            have hnb77 := NB249_250.out
            have hnc77 := NB250_249.out
            obtain ⟨d78_0, d78_1, d78_2, d78_3, d78_4, d78_5, d78_6, d78_7, d78_8, d78_9, d78_10, d78_11, d78_12, d78_13⟩ := cq14 BK249.out
            obtain ⟨e78_0, e78_1, e78_2, e78_3, e78_4, e78_5, e78_6, e78_7, e78_8, e78_9, e78_10, e78_11, e78_12, e78_13⟩ := fq14 BK249.out
            go_wp2
            go_meet
            case rel => exact ⟨_, (true), (by first | rfl | (simp; done) | (simp [*]; done)), H', ⟨by have := HJ1.out; have := HK2.out; first | omega | exact Nat.le_refl _⟩, ⟨by (with_reducible repeat (first | refine zai ?_ _ | refine zak ?_ | refine zaj ?_ _)); exact BK249.out⟩, ⟨by (with_reducible repeat (first | refine zai ?_ _ | refine zak ?_ | refine zaj ?_ _)); exact BK250.out⟩, ⟨by repeat with_reducible first | exact HB.out | apply zad | apply zaa | apply zac | refine zag ?_ GE249.out | refine zag ?_ GE250.out⟩⟩
        case rest =>
         clear HC57
         try clear p2 p2
         try clear c3
         try clear p3
         try clear q3
         try clear hx3
         try clear c4
         try clear c5
         try clear c6
         try clear p6
         try clear c7
         try clear c30
         try clear c30b0
         try clear c31
         try clear c31b0
         try clear p32 p32
         try clear q32 q32
         try clear hx32
         try clear c33
         try clear c33b0
         try clear c33b1
         try clear c34
         try clear c36
         try clear c38
         try clear c38b0
         try clear c38b1
         try clear c40
         try clear c42
         try clear c43
         try clear c49
         try clear c54
         try clear c58
         try clear c60
         try clear c60b0
         try clear c61
         try clear c63
         try clear c63b0
         try clear c64
         try clear p64
         try clear c66
         try clear c66b0
         try clear c66b1
         try clear c67
         try clear c67b0
         try clear c67b1
         try clear c68
         try clear c68b0
         try clear c69
         try clear c72
         try clear c75
         try clear c77
         try clear d35_0 d35_1 d35_10 d35_11 d35_12 d35_13 d35_2 d35_3 d35_4 d35_5 d35_6 d35_7 d35_8 d35_9
         try clear d37_0 d37_1 d37_10 d37_11 d37_12 d37_13 d37_2 d37_3 d37_4 d37_5 d37_6 d37_7 d37_8 d37_9
         try clear d44_0 d44_1 d44_10 d44_11 d44_12 d44_13 d44_2 d44_3 d44_4 d44_5 d44_6 d44_7 d44_8 d44_9
         try clear d46_0 d46_1 d46_10 d46_11 d46_12 d46_13 d46_2 d46_3 d46_4 d46_5 d46_6 d46_7 d46_8 d46_9
         try clear d48_0 d48_1 d48_10 d48_11 d48_12 d48_13 d48_2 d48_3 d48_4 d48_5 d48_6 d48_7 d48_8 d48_9
         try clear d50_0 d50_1 d50_10 d50_11 d50_12 d50_13 d50_2 d50_3 d50_4 d50_5 d50_6 d50_7 d50_8 d50_9
         try clear d52_0 d52_1 d52_10 d52_11 d52_12 d52_13 d52_2 d52_3 d52_4 d52_5 d52_6 d52_7 d52_8 d52_9
         try clear d55_0 d55_1 d55_10 d55_11 d55_12 d55_13 d55_2 d55_3 d55_4 d55_5 d55_6 d55_7 d55_8 d55_9
         try clear d59_0 d59_1 d59_10 d59_11 d59_12 d59_13 d59_2 d59_3 d59_4 d59_5 d59_6 d59_7 d59_8 d59_9
         try clear d62_0 d62_1 d62_10 d62_11 d62_12 d62_13 d62_2 d62_3 d62_4 d62_5 d62_6 d62_7 d62_8 d62_9
         try clear d65_0 d65_1 d65_10 d65_11 d65_12 d65_13 d65_2 d65_3 d65_4 d65_5 d65_6 d65_7 d65_8 d65_9
         try clear d70_0 d70_1 d70_10 d70_11 d70_12 d70_13 d70_2 d70_3 d70_4 d70_5 d70_6 d70_7 d70_8 d70_9
         try clear d71_0 d71_1 d71_2
         try clear d73_0 d73_1 d73_10 d73_11 d73_12 d73_13 d73_2 d73_3 d73_4 d73_5 d73_6 d73_7 d73_8 d73_9
         try clear d74_0 d74_1 d74_2
         try clear d76_0 d76_1 d76_10 d76_11 d76_12 d76_13 d76_2 d76_3 d76_4 d76_5 d76_6 d76_7 d76_8 d76_9
         try clear d78_0 d78_1 d78_10 d78_11 d78_12 d78_13 d78_2 d78_3 d78_4 d78_5 d78_6 d78_7 d78_8 d78_9
         try clear e23_8 e23_9
         try clear e25_0 e25_1 e25_10 e25_11 e25_12 e25_13 e25_2 e25_3 e25_4 e25_5 e25_6 e25_7 e25_8 e25_9
         try clear e27_0 e27_1 e27_10 e27_11 e27_12 e27_13 e27_2 e27_3 e27_4 e27_5 e27_6 e27_7 e27_8 e27_9
         try clear e35_0 e35_1 e35_10 e35_11 e35_12 e35_13 e35_2 e35_3 e35_4 e35_5 e35_6 e35_7 e35_8 e35_9
         try clear e37_0 e37_1 e37_10 e37_11 e37_12 e37_13 e37_2 e37_3 e37_4 e37_5 e37_6 e37_7 e37_8 e37_9
         try clear e44_0 e44_1 e44_10 e44_11 e44_12 e44_13 e44_2 e44_3 e44_4 e44_5 e44_6 e44_7 e44_8 e44_9
         try clear e46_0 e46_1 e46_10 e46_11 e46_12 e46_13 e46_2 e46_3 e46_4 e46_5 e46_6 e46_7 e46_8 e46_9
         try clear e48_0 e48_1 e48_10 e48_11 e48_12 e48_13 e48_2 e48_3 e48_4 e48_5 e48_6 e48_7 e48_8 e48_9
         try clear e50_0 e50_1 e50_10 e50_11 e50_12 e50_13 e50_2 e50_3 e50_4 e50_5 e50_6 e50_7 e50_8 e50_9
         try clear e52_0 e52_1 e52_10 e52_11 e52_12 e52_13 e52_2 e52_3 e52_4 e52_5 e52_6 e52_7 e52_8 e52_9
         try clear e55_0 e55_1 e55_10 e55_11 e55_12 e55_13 e55_2 e55_3 e55_4 e55_5 e55_6 e55_7 e55_8 e55_9
         try clear e59_0 e59_1 e59_10 e59_11 e59_12 e59_13 e59_2 e59_3 e59_4 e59_5 e59_6 e59_7 e59_8 e59_9
         try clear e62_0 e62_1 e62_10 e62_11 e62_12 e62_13 e62_2 e62_3 e62_4 e62_5 e62_6 e62_7 e62_8 e62_9
         try clear e65_0 e65_1 e65_10 e65_11 e65_12 e65_13 e65_2 e65_3 e65_4 e65_5 e65_6 e65_7 e65_8 e65_9
         try clear e6_0 e6_1 e6_2
         try clear e70_0 e70_1 e70_10 e70_11 e70_12 e70_13 e70_2 e70_3 e70_4 e70_5 e70_6 e70_7 e70_8 e70_9
         try clear e71_0 e71_1 e71_2
         try clear e73_0 e73_1 e73_10 e73_11 e73_12 e73_13 e73_2 e73_3 e73_4 e73_5 e73_6 e73_7 e73_8 e73_9
         try clear e74_0 e74_1 e74_2
         try clear e76_0 e76_1 e76_10 e76_11 e76_12 e76_13 e76_2 e76_3 e76_4 e76_5 e76_6 e76_7 e76_8 e76_9
         try clear e78_0 e78_1 e78_10 e78_11 e78_12 e78_13 e78_2 e78_3 e78_4 e78_5 e78_6 e78_7 e78_8 e78_9
         try clear e9_0 e9_1 e9_10 e9_11 e9_12 e9_13 e9_2 e9_3 e9_4 e9_5 e9_6 e9_7 e9_8 e9_9
         obtain ⟨kq, x94_56, rfl, HA, HJ56, BK249, BK250, HB⟩ := hcut
         cases kq with
         | zero => exact absurd HA.out (by simp [zao.j2])
         | succ kj56 =>
          have H := HA.out
          clear HA
          simp only [zao.j2] at H
          by_cases c79 : x94_56 = true
          ·subst c79
           have H1 : (some false) = some r := by rw [if_pos rfl] at H; exact H
           clear H
           have H := H1
           clear H1
           obtain rfl := Option.some.inj H
           go_wp2
           go_ret
           exact ⟨by first | rfl | (simp [zam, zal] <;> rfl) | (simp [*, zam, zal] <;> rfl), by repeat with_reducible first | exact HB.out | apply zad | apply zaa | apply zac | refine zag ?_ GE249.out | refine zag ?_ GE250.out⟩
          ·replace c79 := Bool.eq_false_iff.mpr c79
           subst c79
           have H1 : (zao.l1 kj56 0 a0_0 a0_1 a0_2 a0_3 a0_4 a0_5 a0_6 a0_7 a0_8 a0_9 l0_10 l0_11 a0_12 a0_13) = some r := by rw [if_neg (show ¬ (false = true) by decide)] at H; exact H
           clear H
           have H := H1
           clear H1
           have H' := zae.mk H
           clear H
           go_wp2
           go_loopg [5] kj56 (fun kq v5 w' => ∃ (x5_4 : Int), v5 = .int .i64 x5_4 ∧ zae (zao.l1 kq x5_4 a0_0 a0_1 a0_2 a0_3 a0_4 a0_5 a0_6 a0_7 a0_8 a0_9 l0_10 l0_11 a0_12 a0_13 = some r) ∧ zae (kq ≤ kj56) ∧ zae (w'.heap[gb249]? = some (.cells #[.int .i64 a0_0, .int .i64 a0_1, .int .i64 a0_2, .string a0_3, .int .i64 a0_4, .int .i64 a0_5, .int .i64 a0_6, .int .i64 a0_7, .string a0_8, .int .i64 a0_9, (.slice A0_10 l0_10.length c0_10), (.slice A0_11 l0_11.length c0_11), .bool a0_12, .string a0_13] 47 (0, 0))) ∧ zae (w'.heap[gb250]? = some (.cells #[.int .i64 0, .int .i64 0, .string (⟨#[]⟩ : ByteArray)] 38 (0, 0))) ∧ zae (Below w.heap.size w w'))
           case atStart => exact ⟨(0), (by first | rfl | (simp; done) | (simp [*]; done)), H', ⟨Nat.le_refl _⟩, ⟨by (with_reducible repeat (first | refine zai ?_ _ | refine zak ?_ | refine zaj ?_ _)); exact BK249.out⟩, ⟨by (with_reducible repeat (first | refine zai ?_ _ | refine zak ?_ | refine zaj ?_ _)); exact BK250.out⟩, ⟨by repeat with_reducible first | exact HB.out | apply zad | apply zaa | apply zac | refine zag ?_ GE249.out | refine zag ?_ GE250.out⟩⟩
           case round =>
            clear H'
            try clear p2 p2
            try clear c3
            try clear p3 p3
            try clear q3 q3
            try clear hx3
            try clear c4
            try clear c5
            try clear c6
            try clear p6 p6
            try clear c7
            try clear c30
            try clear c30b0
            try clear c31
            try clear c31b0
            try clear p32 p32
            try clear q32 q32
            try clear hx32
            try clear c33
            try clear c33b0
            try clear c33b1
            try clear c34
            try clear c36
            try clear c38
            try clear c38b0
            try clear c38b1
            try clear c40
            try clear c42
            try clear c43
            try clear c49
            try clear c54
            try clear c58
            try clear c60
            try clear c60b0
            try clear c61
            try clear c63
            try clear c63b0
            try clear c64
            try clear p64 p64
            try clear c66
            try clear c66b0
            try clear c66b1
            try clear c67
            try clear c67b0
            try clear c67b1
            try clear c68
            try clear c68b0
            try clear c69
            try clear c72
            try clear c75
            try clear c77
            try clear c79
            try clear d35_0 d35_1 d35_10 d35_11 d35_12 d35_13 d35_2 d35_3 d35_4 d35_5 d35_6 d35_7 d35_8 d35_9
            try clear d37_0 d37_1 d37_10 d37_11 d37_12 d37_13 d37_2 d37_3 d37_4 d37_5 d37_6 d37_7 d37_8 d37_9
            try clear d44_0 d44_1 d44_10 d44_11 d44_12 d44_13 d44_2 d44_3 d44_4 d44_5 d44_6 d44_7 d44_8 d44_9
            try clear d46_0 d46_1 d46_10 d46_11 d46_12 d46_13 d46_2 d46_3 d46_4 d46_5 d46_6 d46_7 d46_8 d46_9
            try clear d48_0 d48_1 d48_10 d48_11 d48_12 d48_13 d48_2 d48_3 d48_4 d48_5 d48_6 d48_7 d48_8 d48_9
            try clear d50_0 d50_1 d50_10 d50_11 d50_12 d50_13 d50_2 d50_3 d50_4 d50_5 d50_6 d50_7 d50_8 d50_9
            try clear d52_0 d52_1 d52_10 d52_11 d52_12 d52_13 d52_2 d52_3 d52_4 d52_5 d52_6 d52_7 d52_8 d52_9
            try clear d55_0 d55_1 d55_10 d55_11 d55_12 d55_13 d55_2 d55_3 d55_4 d55_5 d55_6 d55_7 d55_8 d55_9
            try clear d59_0 d59_1 d59_10 d59_11 d59_12 d59_13 d59_2 d59_3 d59_4 d59_5 d59_6 d59_7 d59_8 d59_9
            try clear d62_0 d62_1 d62_10 d62_11 d62_12 d62_13 d62_2 d62_3 d62_4 d62_5 d62_6 d62_7 d62_8 d62_9
            try clear d65_0 d65_1 d65_10 d65_11 d65_12 d65_13 d65_2 d65_3 d65_4 d65_5 d65_6 d65_7 d65_8 d65_9
            try clear d70_0 d70_1 d70_10 d70_11 d70_12 d70_13 d70_2 d70_3 d70_4 d70_5 d70_6 d70_7 d70_8 d70_9
            try clear d71_0 d71_1 d71_2
            try clear d73_0 d73_1 d73_10 d73_11 d73_12 d73_13 d73_2 d73_3 d73_4 d73_5 d73_6 d73_7 d73_8 d73_9
            try clear d74_0 d74_1 d74_2
            try clear d76_0 d76_1 d76_10 d76_11 d76_12 d76_13 d76_2 d76_3 d76_4 d76_5 d76_6 d76_7 d76_8 d76_9
            try clear d78_0 d78_1 d78_10 d78_11 d78_12 d78_13 d78_2 d78_3 d78_4 d78_5 d78_6 d78_7 d78_8 d78_9
            try clear e23_8 e23_9
            try clear e25_0 e25_1 e25_10 e25_11 e25_12 e25_13 e25_2 e25_3 e25_4 e25_5 e25_6 e25_7 e25_8 e25_9
            try clear e27_0 e27_1 e27_10 e27_11 e27_12 e27_13 e27_2 e27_3 e27_4 e27_5 e27_6 e27_7 e27_8 e27_9
            try clear e35_0 e35_1 e35_10 e35_11 e35_12 e35_13 e35_2 e35_3 e35_4 e35_5 e35_6 e35_7 e35_8 e35_9
            try clear e37_0 e37_1 e37_10 e37_11 e37_12 e37_13 e37_2 e37_3 e37_4 e37_5 e37_6 e37_7 e37_8 e37_9
            try clear e44_0 e44_1 e44_10 e44_11 e44_12 e44_13 e44_2 e44_3 e44_4 e44_5 e44_6 e44_7 e44_8 e44_9
            try clear e46_0 e46_1 e46_10 e46_11 e46_12 e46_13 e46_2 e46_3 e46_4 e46_5 e46_6 e46_7 e46_8 e46_9
            try clear e48_0 e48_1 e48_10 e48_11 e48_12 e48_13 e48_2 e48_3 e48_4 e48_5 e48_6 e48_7 e48_8 e48_9
            try clear e50_0 e50_1 e50_10 e50_11 e50_12 e50_13 e50_2 e50_3 e50_4 e50_5 e50_6 e50_7 e50_8 e50_9
            try clear e52_0 e52_1 e52_10 e52_11 e52_12 e52_13 e52_2 e52_3 e52_4 e52_5 e52_6 e52_7 e52_8 e52_9
            try clear e55_0 e55_1 e55_10 e55_11 e55_12 e55_13 e55_2 e55_3 e55_4 e55_5 e55_6 e55_7 e55_8 e55_9
            try clear e59_0 e59_1 e59_10 e59_11 e59_12 e59_13 e59_2 e59_3 e59_4 e59_5 e59_6 e59_7 e59_8 e59_9
            try clear e62_0 e62_1 e62_10 e62_11 e62_12 e62_13 e62_2 e62_3 e62_4 e62_5 e62_6 e62_7 e62_8 e62_9
            try clear e65_0 e65_1 e65_10 e65_11 e65_12 e65_13 e65_2 e65_3 e65_4 e65_5 e65_6 e65_7 e65_8 e65_9
            try clear e6_0 e6_1 e6_2
            try clear e70_0 e70_1 e70_10 e70_11 e70_12 e70_13 e70_2 e70_3 e70_4 e70_5 e70_6 e70_7 e70_8 e70_9
            try clear e71_0 e71_1 e71_2
            try clear e73_0 e73_1 e73_10 e73_11 e73_12 e73_13 e73_2 e73_3 e73_4 e73_5 e73_6 e73_7 e73_8 e73_9
            try clear e74_0 e74_1 e74_2
            try clear e76_0 e76_1 e76_10 e76_11 e76_12 e76_13 e76_2 e76_3 e76_4 e76_5 e76_6 e76_7 e76_8 e76_9
            try clear e78_0 e78_1 e78_10 e78_11 e78_12 e78_13 e78_2 e78_3 e78_4 e78_5 e78_6 e78_7 e78_8 e78_9
            try clear e9_0 e9_1 e9_10 e9_11 e9_12 e9_13 e9_2 e9_3 e9_4 e9_5 e9_6 e9_7 e9_8 e9_9
            obtain ⟨x5_4, rfl, HA, HK4, BK249, BK250, HB⟩ := hrel
            cases gk with
            | zero => exact absurd HA.out (by simp [zao.l1])
            | succ k4 =>
             have H := HA.out
             clear HA
             simp only [zao.l1] at H
             by_cases c80 : x5_4 < (l0_11.length : Int)
             ·rw [if_pos c80] at H
              have c80b0 : decide (x5_4 < (l0_11.length : Int)) = true := decide_eq_true c80
              clear c80
              by_cases c81 : 0 ≤ x5_4
              ·rw [if_pos c81] at H
               have c81b0 : decide (0 ≤ x5_4) = true := decide_eq_true c81
               clear c81
               replace H := Option.bind_eq_some_iff.mp H
               obtain ⟨t255, A820, H⟩ := H
               replace H : (if t255 = true then (zao.l1 k4 (wrap64 (x5_4 + 1)) a0_0 a0_1 a0_2 a0_3 a0_4 a0_5 a0_6 a0_7 a0_8 a0_9 l0_10 l0_11 a0_12 a0_13) else (some false)) = some r := H
               have A82 := zae.mk A820
               clear A820
               by_cases c83 : t255 = true
               ·subst c83
                have H1 : (zao.l1 k4 (wrap64 (x5_4 + 1)) a0_0 a0_1 a0_2 a0_3 a0_4 a0_5 a0_6 a0_7 a0_8 a0_9 l0_10 l0_11 a0_12 a0_13) = some r := by rw [if_pos rfl] at H; exact H
                clear H
                have H := H1
                clear H1
                have H' := zae.mk H
                clear H
                have hnb84 := NB249_250.out
                have hnc84 := NB250_249.out
                obtain ⟨d85_0, d85_1, d85_2, d85_3, d85_4, d85_5, d85_6, d85_7, d85_8, d85_9, d85_10, d85_11, d85_12, d85_13⟩ := cq14 BK249.out
                obtain ⟨e85_0, e85_1, e85_2, e85_3, e85_4, e85_5, e85_6, e85_7, e85_8, e85_9, e85_10, e85_11, e85_12, e85_13⟩ := fq14 BK249.out
                have p254 : 0 ≤ (x5_4 : Int) := of_decide_eq_true (by first | (with_reducible assumption) | assumption)
                have q254 : x5_4 < (l0_11.length : Int) := of_decide_eq_true (by first | (with_reducible assumption) | assumption)
                obtain ⟨ad254, e254, hx254_0, hx254_1, hx254_2⟩ := zcm HR0_11.out x5_4 p254 q254
                cases e254
                replace hx254_0 := zab HB.out hx254_0
                replace hx254_1 := zab HB.out hx254_1
                replace hx254_2 := zab HB.out hx254_2
                replace p254 := eq_true p254
                replace q254 := eq_true q254
                go_wp2_with (first | ((with_reducible refine za3 (f := 37) rfl ?_); refine zbv (some 107) rfl rfl Tryd.func37 (by kernel_rfl) rfl #[.agg #[.int .i64 ((zap l0_11 x5_4).f0), .int .i64 ((zap l0_11 x5_4).f1), .string ((zap l0_11 x5_4).f2)]] rfl (by (try simp only [List.map_toArray, List.map_cons, List.map_nil]); first | done | rfl | (simp only [List.length_drop, List.length_take]; rfl)) ?_; (with_reducible refine (zax.calls k4 ((zap l0_11 x5_4).f0) ((zap l0_11 x5_4).f1) ((zap l0_11 x5_4).f2) true _ A82.out).mono ?_); rintro e w86 ⟨rfl, hb⟩; refine ⟨_, rfl, ?_⟩; have n0_ := zae.mk (zau (g := gb249) (o := .cells #[.int .i64 a0_0, .int .i64 a0_1, .int .i64 a0_2, .string a0_3, .int .i64 a0_4, .int .i64 a0_5, .int .i64 a0_6, .int .i64 a0_7, .string a0_8, .int .i64 a0_9, .slice A0_10 l0_10.length c0_10, .slice (some ad254) l0_11.length c0_11, .bool a0_12, .string a0_13] 47 (0, 0)) (by (with_reducible repeat (first | refine zai ?_ _ | refine zak ?_ | refine zaj ?_ _)); exact BK249.out) hb); have n1_ := zae.mk (zau (g := gb250) (o := .cells #[.int .i64 0, .int .i64 0, .string (⟨#[]⟩ : ByteArray)] 38 (0, 0)) (by (with_reducible repeat (first | refine zai ?_ _ | refine zak ?_ | refine zaj ?_ _)); exact BK250.out) hb); have n2_ := zae.mk (zaq (by repeat with_reducible first | exact HB.out | apply zad | apply zaa | apply zac | refine zag ?_ GE249.out | refine zag ?_ GE250.out) hb); clear BK249; clear BK250; clear HB; have BK249 := n0_; have BK250 := n1_; have HB := n2_; clear n0_ n1_ n2_; (try clear hb); (try clear hb2); (try clear hk); (try clear hi)))
                go_roundg k4
                case measure => have := HJ1.out; have := HK2.out; have := HJ56.out; have := HK4.out; omega
                case rel => exact ⟨(wrap64 (x5_4 + 1)), (by first | rfl | (simp; done) | (simp [*]; done)), H', ⟨by have := HJ1.out; have := HK2.out; have := HJ56.out; have := HK4.out; omega⟩, ⟨by (with_reducible repeat (first | refine zai ?_ _ | refine zak ?_ | refine zaj ?_ _)); exact BK249.out⟩, ⟨by (with_reducible repeat (first | refine zai ?_ _ | refine zak ?_ | refine zaj ?_ _)); exact BK250.out⟩, ⟨by repeat with_reducible first | exact HB.out | apply zad | apply zaa | apply zac | refine zag ?_ GE249.out | refine zag ?_ GE250.out⟩⟩
               ·replace c83 := Bool.eq_false_iff.mpr c83
                subst c83
                have H1 : (some false) = some r := by rw [if_neg (show ¬ (false = true) by decide)] at H; exact H
                clear H
                have H := H1
                clear H1
                obtain rfl := Option.some.inj H
                have hnb87 := NB249_250.out
                have hnc87 := NB250_249.out
                obtain ⟨d88_0, d88_1, d88_2, d88_3, d88_4, d88_5, d88_6, d88_7, d88_8, d88_9, d88_10, d88_11, d88_12, d88_13⟩ := cq14 BK249.out
                obtain ⟨e88_0, e88_1, e88_2, e88_3, e88_4, e88_5, e88_6, e88_7, e88_8, e88_9, e88_10, e88_11, e88_12, e88_13⟩ := fq14 BK249.out
                have p254 : 0 ≤ (x5_4 : Int) := of_decide_eq_true (by first | (with_reducible assumption) | assumption)
                have q254 : x5_4 < (l0_11.length : Int) := of_decide_eq_true (by first | (with_reducible assumption) | assumption)
                obtain ⟨ad254, e254, hx254_0, hx254_1, hx254_2⟩ := zcm HR0_11.out x5_4 p254 q254
                cases e254
                replace hx254_0 := zab HB.out hx254_0
                replace hx254_1 := zab HB.out hx254_1
                replace hx254_2 := zab HB.out hx254_2
                replace p254 := eq_true p254
                replace q254 := eq_true q254
                go_wp2_with (first | ((with_reducible refine za3 (f := 37) rfl ?_); refine zbv (some 107) rfl rfl Tryd.func37 (by kernel_rfl) rfl #[.agg #[.int .i64 ((zap l0_11 x5_4).f0), .int .i64 ((zap l0_11 x5_4).f1), .string ((zap l0_11 x5_4).f2)]] rfl (by (try simp only [List.map_toArray, List.map_cons, List.map_nil]); first | done | rfl | (simp only [List.length_drop, List.length_take]; rfl)) ?_; (with_reducible refine (zax.calls k4 ((zap l0_11 x5_4).f0) ((zap l0_11 x5_4).f1) ((zap l0_11 x5_4).f2) false _ A82.out).mono ?_); rintro e w89 ⟨rfl, hb⟩; refine ⟨_, rfl, ?_⟩; have n0_ := zae.mk (zau (g := gb249) (o := .cells #[.int .i64 a0_0, .int .i64 a0_1, .int .i64 a0_2, .string a0_3, .int .i64 a0_4, .int .i64 a0_5, .int .i64 a0_6, .int .i64 a0_7, .string a0_8, .int .i64 a0_9, .slice A0_10 l0_10.length c0_10, .slice (some ad254) l0_11.length c0_11, .bool a0_12, .string a0_13] 47 (0, 0)) (by (with_reducible repeat (first | refine zai ?_ _ | refine zak ?_ | refine zaj ?_ _)); exact BK249.out) hb); have n1_ := zae.mk (zau (g := gb250) (o := .cells #[.int .i64 0, .int .i64 0, .string (⟨#[]⟩ : ByteArray)] 38 (0, 0)) (by (with_reducible repeat (first | refine zai ?_ _ | refine zak ?_ | refine zaj ?_ _)); exact BK250.out) hb); have n2_ := zae.mk (zaq (by repeat with_reducible first | exact HB.out | apply zad | apply zaa | apply zac | refine zag ?_ GE249.out | refine zag ?_ GE250.out) hb); clear BK249; clear BK250; clear HB; have BK249 := n0_; have BK250 := n1_; have HB := n2_; clear n0_ n1_ n2_; (try clear hb); (try clear hb2); (try clear hk); (try clear hi)))
                go_ret
                exact ⟨by first | rfl | (simp [zam, zal] <;> rfl) | (simp [*, zam, zal] <;> rfl), by repeat with_reducible first | exact HB.out | apply zad | apply zaa | apply zac | refine zag ?_ GE249.out | refine zag ?_ GE250.out⟩
              ·rw [if_neg c81] at H
               exact absurd H (by simp)
             ·rw [if_neg c80] at H
              have c80b0 : decide (x5_4 < (l0_11.length : Int)) = false := decide_eq_false c80
              clear c80
              by_cases c90 : a0_4 = 2
              ·rw [if_pos c90] at H
               have c90b0 : (a0_4 == 2) = true := beq_iff_eq.mpr c90
               have c90b1 : (a0_4 != 2) = false := bne_eq_false_iff_eq.mpr c90
               clear c90
               obtain rfl := Option.some.inj H
               have hnb91 := NB249_250.out
               have hnc91 := NB250_249.out
               obtain ⟨d92_0, d92_1, d92_2, d92_3, d92_4, d92_5, d92_6, d92_7, d92_8, d92_9, d92_10, d92_11, d92_12, d92_13⟩ := cq14 BK249.out
               obtain ⟨e92_0, e92_1, e92_2, e92_3, e92_4, e92_5, e92_6, e92_7, e92_8, e92_9, e92_10, e92_11, e92_12, e92_13⟩ := fq14 BK249.out
               go_wp2
               go_ret
               exact ⟨by first | rfl | (simp [zam, zal] <;> rfl) | (simp [*, zam, zal] <;> rfl), by repeat with_reducible first | exact HB.out | apply zad | apply zaa | apply zac | refine zag ?_ GE249.out | refine zag ?_ GE250.out⟩
              ·rw [if_neg c90] at H
               have c90b0 : (a0_4 == 2) = false := beq_eq_false_iff_ne.mpr c90
               have c90b1 : (a0_4 != 2) = true := bne_iff_ne.mpr c90
               obtain rfl := Option.some.inj H
               have hnb93 := NB249_250.out
               have hnc93 := NB250_249.out
               obtain ⟨d94_0, d94_1, d94_2, d94_3, d94_4, d94_5, d94_6, d94_7, d94_8, d94_9, d94_10, d94_11, d94_12, d94_13⟩ := cq14 BK249.out
               obtain ⟨e94_0, e94_1, e94_2, e94_3, e94_4, e94_5, e94_6, e94_7, e94_8, e94_9, e94_10, e94_11, e94_12, e94_13⟩ := fq14 BK249.out
               go_wp2
               go_ret
               exact ⟨by first | rfl | (simp [zam, zal] <;> rfl) | (simp [*, zam, zal] <;> rfl), by repeat with_reducible first | exact HB.out | apply zad | apply zaa | apply zac | refine zag ?_ GE249.out | refine zag ?_ GE250.out⟩
end Go.Proofs.YtikmmigfdchcpaaDoor.PP
