/-
  Proved: a part of the proof of the claim's statement (text Q21 of it).
  Conditions: none of ours.
-/
import Derived.Test.YtikmmigfdchcpaaDoorPaQ0
import Derived.Test.YtikmmigfdchcpaaDoorPaQ1
import Derived.Test.YtikmmigfdchcpaaDoorPaQ4
import Derived.Test.YtikmmigfdchcpaaDoorPaQ5
import Derived.Test.YtikmmigfdchcpaaDoorPaQ15
import Derived.Test.YtikmmigfdchcpaaDoorPaQ19
import Derived.Test.YtikmmigfdchcpaaDoorPaQ20
namespace Go.Proofs.YtikmmigfdchcpaaDoor.PP
open Go.RowKit Go.Proofs.YtikmmigfdchcpaaDoorW.PrintWords Go.Proofs.YtikmmigfdchcpaaDoorW.PrintLast Go.Proofs.YtikmmigfdchcpaaDoorW.PrintMore
set_option linter.unusedVariables false
set_option linter.unusedSimpArgs false
attribute [local go_sem high] eqA38
/-! ### za1: function 33 -/
mutual
def za1.j0 : Nat → Bool → Int → Int → Int → ByteArray → Int → Int → Int → Int → ByteArray → Int → List (S38) → List (S38) → Bool → ByteArray → Option (Bool)
 | 0, _, _, _, _, _, _, _, _, _, _, _, _, _, _, _ => none
 | k + 1, x20, x122000, x122001, x122002, x122003, x122004, x122005, x122006, x122007, x122008, x122009, x122010, x122011, x122012, x122013 => if x20 = true then (some false) else (if x122004 = 1 then ((zbm.f k x122005 x122009).bind fun bt124 => (if bt124.2 = true then ((za2.f k 1 x122006 x122007 x122008).bind fun t128 => (if t128 = true then ((zbs.f k bt124.1 x122010).bind fun t129 => (if t129 = true then (some ((x122011.length : Int) == 0)) else (some false))) else (some false))) else (some false))) else (if x122005 = 0 then (if x122009 = 0 then (if (!(x122006 == 0) || (!(x122007 == 0) || (!(x122008.toList == ([] : List UInt8))))) = true then (za1.j1 k true x122000 x122001 x122002 x122003 x122004 x122005 x122006 x122007 x122008 x122009 x122010 x122011 x122012 x122013) else (za1.j1 k (decide ((x122010.length : Int) > 0)) x122000 x122001 x122002 x122003 x122004 x122005 x122006 x122007 x122008 x122009 x122010 x122011 x122012 x122013)) else (za1.j1 k true x122000 x122001 x122002 x122003 x122004 x122005 x122006 x122007 x122008 x122009 x122010 x122011 x122012 x122013)) else (za1.j1 k true x122000 x122001 x122002 x122003 x122004 x122005 x122006 x122007 x122008 x122009 x122010 x122011 x122012 x122013)))
def za1.j1 : Nat → Bool → Int → Int → Int → ByteArray → Int → Int → Int → Int → ByteArray → Int → List (S38) → List (S38) → Bool → ByteArray → Option (Bool)
 | 0, _, _, _, _, _, _, _, _, _, _, _, _, _, _, _ => none
 | k + 1, x69, x122000, x122001, x122002, x122003, x122004, x122005, x122006, x122007, x122008, x122009, x122010, x122011, x122012, x122013 => if x69 = true then (some false) else (za1.l0 k x122011 (x122011.length : Int) 0 x122000 x122001 x122002 x122003 x122004 x122005 x122006 x122007 x122008 x122009 x122010 x122011 x122012 x122013)
def za1.l0 : Nat → List (S38) → Int → Int → Int → Int → Int → ByteArray → Int → Int → Int → Int → ByteArray → Int → List (S38) → List (S38) → Bool → ByteArray → Option (Bool)
 | 0, _, _, _, _, _, _, _, _, _, _, _, _, _, _, _, _, _ => none
 | k + 1, x71, x72, x73, x122000, x122001, x122002, x122003, x122004, x122005, x122006, x122007, x122008, x122009, x122010, x122011, x122012, x122013 => if x73 < x72 then (if 0 ≤ x73 then (if x73 < (x71.length : Int) then ((zb1.f k ((zap x71 x73).f0) ((zap x71 x73).f1) ((zap x71 x73).f2)).bind fun t132 => (if t132 = true then (za1.l0 k x71 x72 (wrap64 (x73 + 1)) x122000 x122001 x122002 x122003 x122004 x122005 x122006 x122007 x122008 x122009 x122010 x122011 x122012 x122013) else (some false))) else (none)) else (none)) else (if x122004 = 2 then (some true) else (if x122004 = 3 then (some ((x122011.length : Int) == 0)) else (if x122004 = 4 then (some ((x122011.length : Int) == 0)) else (some false))))
end
def za1.f (k : Nat) (a0_0 : Int) (a0_1 : Int) (a0_2 : Int) (a0_3 : ByteArray) (a0_4 : Int) (a0_5 : Int) (a0_6 : Int) (a0_7 : Int) (a0_8 : ByteArray) (a0_9 : Int) (l0_10 : List (S38)) (l0_11 : List (S38)) (a0_12 : Bool) (a0_13 : ByteArray) : Option (Bool) := if a0_0 < 0 then (za1.j0 k true a0_0 a0_1 a0_2 a0_3 a0_4 a0_5 a0_6 a0_7 a0_8 a0_9 l0_10 l0_11 a0_12 a0_13) else ((za2.f k 0 a0_1 a0_2 a0_3).bind fun t122 => (if t122 = true then ((zcg.f a0_0 a0_1 a0_2 a0_3 a0_4 a0_5 a0_6 a0_7 a0_8 a0_9 l0_10 l0_11 a0_12 a0_13).bind fun t123 => (za1.j0 k (!t123) a0_0 a0_1 a0_2 a0_3 a0_4 a0_5 a0_6 a0_7 a0_8 a0_9 l0_10 l0_11 a0_12 a0_13)) else (za1.j0 k true a0_0 a0_1 a0_2 a0_3 a0_4 a0_5 a0_6 a0_7 a0_8 a0_9 l0_10 l0_11 a0_12 a0_13)))
set_option maxHeartbeats 8000000 in
set_option maxRecDepth 100000 in
theorem za1.calls (k : Nat) (a0_0 : Int) (a0_1 : Int) (a0_2 : Int) (a0_3 : ByteArray) (a0_4 : Int) (a0_5 : Int) (a0_6 : Int) (a0_7 : Int) (a0_8 : ByteArray) (a0_9 : Int) (A0_10 : Option Addr) (c0_10 : Nat) (l0_10 : List (S38)) (A0_11 : Option Addr) (c0_11 : Nat) (l0_11 : List (S38)) (a0_12 : Bool) (a0_13 : ByteArray) (r : Bool) (w : World) (hG : Glob w) (hr0_10 : Kd.C k38 w A0_10 l0_10.length l0_10) (hc0_10 : l0_10.length ≤ c0_10) (hr0_11 : Kd.C k38 w A0_11 l0_11.length l0_11) (hc0_11 : l0_11.length ≤ c0_11) (h : za1.f k a0_0 a0_1 a0_2 a0_3 a0_4 a0_5 a0_6 a0_7 a0_8 a0_9 l0_10 l0_11 a0_12 a0_13 = some r) :
  Calls Tryd.prog 33 #[.agg #[.int .i64 a0_0, .int .i64 a0_1, .int .i64 a0_2, .string a0_3, .int .i64 a0_4, .int .i64 a0_5, .int .i64 a0_6, .int .i64 a0_7, .string a0_8, .int .i64 a0_9, .slice A0_10 l0_10.length c0_10, .slice A0_11 l0_11.length c0_11, .bool a0_12, .string a0_13]] w fun e w' => e = .returned (.bool r) ∧ Below w.heap.size w w' := by
 have hu47 := Tryd.underlying47
 have hu38 := Tryd.underlying38
 have HR0_10 := zad.mk hr0_10
 have HC0_10 := zad.mk hc0_10
 clear hr0_10 hc0_10
 have HR0_11 := zad.mk hr0_11
 have HC0_11 := zad.mk hc0_11
 clear hr0_11 hc0_11
 have HB := zad.mk (Below.refl w.heap.size w)
 have HG := zad.mk hG
 clear hG
 have H : (if a0_0 < 0 then (za1.j0 k true a0_0 a0_1 a0_2 a0_3 a0_4 a0_5 a0_6 a0_7 a0_8 a0_9 l0_10 l0_11 a0_12 a0_13) else ((za2.f k 0 a0_1 a0_2 a0_3).bind fun t122 => (if t122 = true then ((zcg.f a0_0 a0_1 a0_2 a0_3 a0_4 a0_5 a0_6 a0_7 a0_8 a0_9 l0_10 l0_11 a0_12 a0_13).bind fun t123 => (za1.j0 k (!t123) a0_0 a0_1 a0_2 a0_3 a0_4 a0_5 a0_6 a0_7 a0_8 a0_9 l0_10 l0_11 a0_12 a0_13)) else (za1.j0 k true a0_0 a0_1 a0_2 a0_3 a0_4 a0_5 a0_6 a0_7 a0_8 a0_9 l0_10 l0_11 a0_12 a0_13)))) = some r := h
 clear h
 have HC2 := zad.mk H
 clear H
 go_enter Tryd.func33, Tryd.ntmps33
 go_upto_region 1 with (first | ((with_reducible refine za7 (N := 1) rfl ?_); (try (refine zb6 (by rfl) ?_; dsimp only)); refine za8 ?hg (N := 1) ?hd (cs := #[.int .i64 a0_0, .int .i64 a0_1, .int .i64 a0_2, .string a0_3, .int .i64 a0_4, .int .i64 a0_5, .int .i64 a0_6, .int .i64 a0_7, .string a0_8, .int .i64 a0_9, .slice A0_10 l0_10.length c0_10, .slice A0_11 l0_11.length c0_11, .bool a0_12, .string a0_13]) (t := 47) ?hr ?_; (case hd => rfl); (case hg => rfl); (case hr => first | (go_simp; done) | (go_simp; rfl)); intro gb121 hg w3 hbox hb; have n0_ := zad.mk (zaq (by repeat (first | (with_reducible first | exact HB.out | apply zac | apply zaa | apply zab) | exact HB.out)) hb); have n1_ := zad.mk (hbox); have n2_ := zad.mk ((by rw [hg]; exact (zas (by repeat (first | (with_reducible first | exact HB.out | apply zac | apply zaa | apply zab) | exact HB.out))) : w.heap.size ≤ gb121)); have n3_ := zad.mk ((by rw [hg]; exact (zas (by repeat (first | (with_reducible first | exact HB.out | apply zac | apply zaa | apply zab) | exact HB.out))) : w.heap.size ≤ gb121)); clear HB; have HB := n0_; have BK121 := n1_; have GW121 := n2_; have GE121 := n3_; clear n0_ n1_ n2_ n3_; clear hb hbox hg))
 (try simp only [Act.put, List.setIfInBounds_toArray, List.set_cons_zero, List.set_cons_succ])
 go_cut [20] (fun v20 wc => ∃ (kq : Nat) (x20_1 : Bool), v20 = .bool x20_1 ∧ zad (za1.j0 kq x20_1 a0_0 a0_1 a0_2 a0_3 a0_4 a0_5 a0_6 a0_7 a0_8 a0_9 l0_10 l0_11 a0_12 a0_13 = some r) ∧ zad (kq ≤ k) ∧ zad (wc.heap[gb121]? = some (.cells #[.int .i64 a0_0, .int .i64 a0_1, .int .i64 a0_2, .string a0_3, .int .i64 a0_4, .int .i64 a0_5, .int .i64 a0_6, .int .i64 a0_7, .string a0_8, .int .i64 a0_9, (.slice A0_10 l0_10.length c0_10), (.slice A0_11 l0_11.length c0_11), .bool a0_12, .string a0_13] 47 (0, 0))) ∧ zad (Below w.heap.size w wc))
 case first =>
  have H := HC2.out
  clear HC2
  by_cases c4 : a0_0 < 0
  ·rw [if_pos c4] at H
   have c4b0 : decide (a0_0 < 0) = true := decide_eq_true c4
   clear c4
   (first | rw [c4b0] | (simp only [i64_w]; rw [c4b0]) | skip)
   have H' := zad.mk H
   clear H
   obtain ⟨hcz5_0, hcz5_1, hcz5_2, hcz5_3, hcz5_4, hcz5_5, hcz5_6, hcz5_7, hcz5_8, hcz5_9, hcz5_10, hcz5_11, hcz5_12, hcz5_13⟩ := cq14 BK121.out
   obtain ⟨hfz5_0, hfz5_1, hfz5_2, hfz5_3, hfz5_4, hfz5_5, hfz5_6, hfz5_7, hfz5_8, hfz5_9, hfz5_10, hfz5_11, hfz5_12, hfz5_13⟩ := fq14 BK121.out
   go_wp2
   go_meet
   case rel => exact ⟨_, (true), (by first | rfl | (simp; done) | (simp [*]; done)), H', ⟨by first | omega | exact Nat.le_refl _⟩, ⟨by (with_reducible repeat (first | refine zah ?_ _ | refine zaj ?_ | refine zai ?_ _)); exact BK121.out⟩, ⟨by repeat (first | (with_reducible first | exact HB.out | apply zac | apply zaa | apply zab | refine zaf ?_ GE121.out) | exact HB.out)⟩⟩
  ·rw [if_neg c4] at H
   have c4b0 : decide (a0_0 < 0) = false := decide_eq_false c4
   clear c4
   (first | rw [c4b0] | (simp only [i64_w]; rw [c4b0]) | skip)
   replace H := Option.bind_eq_some_iff.mp H
   obtain ⟨t122, A60, H⟩ := H
   replace H : (if t122 = true then ((zcg.f a0_0 a0_1 a0_2 a0_3 a0_4 a0_5 a0_6 a0_7 a0_8 a0_9 l0_10 l0_11 a0_12 a0_13).bind fun t123 => (za1.j0 k (!t123) a0_0 a0_1 a0_2 a0_3 a0_4 a0_5 a0_6 a0_7 a0_8 a0_9 l0_10 l0_11 a0_12 a0_13)) else (za1.j0 k true a0_0 a0_1 a0_2 a0_3 a0_4 a0_5 a0_6 a0_7 a0_8 a0_9 l0_10 l0_11 a0_12 a0_13)) = some r := H
   have A6 := zad.mk A60
   clear A60
   by_cases c7 : t122 = true
   ·subst c7
    have H1 : ((zcg.f a0_0 a0_1 a0_2 a0_3 a0_4 a0_5 a0_6 a0_7 a0_8 a0_9 l0_10 l0_11 a0_12 a0_13).bind fun t123 => (za1.j0 k (!t123) a0_0 a0_1 a0_2 a0_3 a0_4 a0_5 a0_6 a0_7 a0_8 a0_9 l0_10 l0_11 a0_12 a0_13)) = some r := by rw [if_pos rfl] at H; exact H
    clear H
    have H := H1
    clear H1
    replace H := Option.bind_eq_some_iff.mp H
    obtain ⟨t123, A80, H⟩ := H
    replace H : (za1.j0 k (!t123) a0_0 a0_1 a0_2 a0_3 a0_4 a0_5 a0_6 a0_7 a0_8 a0_9 l0_10 l0_11 a0_12 a0_13) = some r := H
    have A8 := zad.mk A80
    clear A80
    have H' := zad.mk H
    clear H
    obtain ⟨hcz9_0, hcz9_1, hcz9_2, hcz9_3, hcz9_4, hcz9_5, hcz9_6, hcz9_7, hcz9_8, hcz9_9, hcz9_10, hcz9_11, hcz9_12, hcz9_13⟩ := cq14 BK121.out
    obtain ⟨hfz9_0, hfz9_1, hfz9_2, hfz9_3, hfz9_4, hfz9_5, hfz9_6, hfz9_7, hfz9_8, hfz9_9, hfz9_10, hfz9_11, hfz9_12, hfz9_13⟩ := fq14 BK121.out
    go_wp2_with (first | (go_at_call 40; (with_reducible refine (za2.calls k 0 a0_1 a0_2 a0_3 true _ ?side0 A6.out).mono ?_); (case side0 => exact zbh HG.out (by repeat (first | (with_reducible first | exact HB.out | apply zac | apply zaa | apply zab | refine zaf ?_ GE121.out) | exact HB.out))); rintro e w10 ⟨rfl, hb⟩; have n0_ := zad.mk (zav (g := gb121) (o := .cells #[.int .i64 a0_0, .int .i64 a0_1, .int .i64 a0_2, .string a0_3, .int .i64 a0_4, .int .i64 a0_5, .int .i64 a0_6, .int .i64 a0_7, .string a0_8, .int .i64 a0_9, .slice A0_10 l0_10.length c0_10, .slice A0_11 l0_11.length c0_11, .bool a0_12, .string a0_13] 47 (0, 0)) (by (with_reducible repeat (first | refine zah ?_ _ | refine zaj ?_ | refine zai ?_ _)); exact BK121.out) hb); have n1_ := zad.mk (zaq (by repeat (first | (with_reducible first | exact HB.out | apply zac | apply zaa | apply zab | refine zaf ?_ GE121.out) | exact HB.out)) hb); clear BK121; clear HB; have BK121 := n0_; have HB := n1_; clear n0_ n1_; (try clear hb); (try clear hb2); (try clear hk); (try clear hi); obtain ⟨hcz11_0, hcz11_1, hcz11_2, hcz11_3, hcz11_4, hcz11_5, hcz11_6, hcz11_7, hcz11_8, hcz11_9, hcz11_10, hcz11_11, hcz11_12, hcz11_13⟩ := cq14 BK121.out; obtain ⟨hfz11_0, hfz11_1, hfz11_2, hfz11_3, hfz11_4, hfz11_5, hfz11_6, hfz11_7, hfz11_8, hfz11_9, hfz11_10, hfz11_11, hfz11_12, hfz11_13⟩ := fq14 BK121.out) | (go_at_call 41; (with_reducible refine (zcg.calls a0_0 a0_1 a0_2 a0_3 a0_4 a0_5 a0_6 a0_7 a0_8 a0_9 _ _ l0_10 _ _ l0_11 a0_12 a0_13 t123 _ ?side1 ?side2 ?side3 ?side4 A8.out).mono ?_); (case side1 => repeat (first | exact (Kd.zbn HR0_10.out HB.out) | (with_reducible refine Kd.zb7 ?_ _) | (with_reducible refine Kd.C_drewN ?_ _) | (with_reducible refine Kd.C_drew ?_))); (case side2 => exact HC0_10.out); (case side3 => repeat (first | exact (Kd.zbn HR0_11.out HB.out) | (with_reducible refine Kd.zb7 ?_ _) | (with_reducible refine Kd.C_drewN ?_ _) | (with_reducible refine Kd.C_drew ?_))); (case side4 => exact HC0_11.out); rintro e w12 ⟨rfl, hb⟩; have n0_ := zad.mk (zav (g := gb121) (o := .cells #[.int .i64 a0_0, .int .i64 a0_1, .int .i64 a0_2, .string a0_3, .int .i64 a0_4, .int .i64 a0_5, .int .i64 a0_6, .int .i64 a0_7, .string a0_8, .int .i64 a0_9, .slice A0_10 l0_10.length c0_10, .slice A0_11 l0_11.length c0_11, .bool a0_12, .string a0_13] 47 (0, 0)) (by (with_reducible repeat (first | refine zah ?_ _ | refine zaj ?_ | refine zai ?_ _)); exact BK121.out) hb); have n1_ := zad.mk (zaq (by repeat (first | (with_reducible first | exact HB.out | apply zac | apply zaa | apply zab | refine zaf ?_ GE121.out) | exact HB.out)) hb); clear BK121; clear HB; have BK121 := n0_; have HB := n1_; clear n0_ n1_; (try clear hb); (try clear hb2); (try clear hk); (try clear hi)))
    go_meet
    case rel => exact ⟨_, (!t123), (by first | rfl | (simp; done) | (simp [*]; done)), H', ⟨by first | omega | exact Nat.le_refl _⟩, ⟨by (with_reducible repeat (first | refine zah ?_ _ | refine zaj ?_ | refine zai ?_ _)); exact BK121.out⟩, ⟨by repeat (first | (with_reducible first | exact HB.out | apply zac | apply zaa | apply zab | refine zaf ?_ GE121.out) | exact HB.out)⟩⟩
   ·replace c7 := Bool.eq_false_iff.mpr c7
    subst c7
    have H1 : (za1.j0 k true a0_0 a0_1 a0_2 a0_3 a0_4 a0_5 a0_6 a0_7 a0_8 a0_9 l0_10 l0_11 a0_12 a0_13) = some r := by rw [if_neg (show ¬ (false = true) by decide)] at H; exact H
    clear H
    have H := H1
    clear H1
    have H' := zad.mk H
    clear H
    obtain ⟨hcz13_0, hcz13_1, hcz13_2, hcz13_3, hcz13_4, hcz13_5, hcz13_6, hcz13_7, hcz13_8, hcz13_9, hcz13_10, hcz13_11, hcz13_12, hcz13_13⟩ := cq14 BK121.out
    obtain ⟨hfz13_0, hfz13_1, hfz13_2, hfz13_3, hfz13_4, hfz13_5, hfz13_6, hfz13_7, hfz13_8, hfz13_9, hfz13_10, hfz13_11, hfz13_12, hfz13_13⟩ := fq14 BK121.out
    go_wp2_with (first | (go_at_call 40; (with_reducible refine (za2.calls k 0 a0_1 a0_2 a0_3 false _ ?side0 A6.out).mono ?_); (case side0 => exact zbh HG.out (by repeat (first | (with_reducible first | exact HB.out | apply zac | apply zaa | apply zab | refine zaf ?_ GE121.out) | exact HB.out))); rintro e w14 ⟨rfl, hb⟩; have n0_ := zad.mk (zav (g := gb121) (o := .cells #[.int .i64 a0_0, .int .i64 a0_1, .int .i64 a0_2, .string a0_3, .int .i64 a0_4, .int .i64 a0_5, .int .i64 a0_6, .int .i64 a0_7, .string a0_8, .int .i64 a0_9, .slice A0_10 l0_10.length c0_10, .slice A0_11 l0_11.length c0_11, .bool a0_12, .string a0_13] 47 (0, 0)) (by (with_reducible repeat (first | refine zah ?_ _ | refine zaj ?_ | refine zai ?_ _)); exact BK121.out) hb); have n1_ := zad.mk (zaq (by repeat (first | (with_reducible first | exact HB.out | apply zac | apply zaa | apply zab | refine zaf ?_ GE121.out) | exact HB.out)) hb); clear BK121; clear HB; have BK121 := n0_; have HB := n1_; clear n0_ n1_; (try clear hb); (try clear hb2); (try clear hk); (try clear hi)))
    go_meet
    case rel => exact ⟨_, (true), (by first | rfl | (simp; done) | (simp [*]; done)), H', ⟨by first | omega | exact Nat.le_refl _⟩, ⟨by (with_reducible repeat (first | refine zah ?_ _ | refine zaj ?_ | refine zai ?_ _)); exact BK121.out⟩, ⟨by repeat (first | (with_reducible first | exact HB.out | apply zac | apply zaa | apply zab | refine zaf ?_ GE121.out) | exact HB.out)⟩⟩
 case rest =>
  clear HC2
  try clear p2
  try clear c3
  try clear c4
  try clear c4b0
  try clear c7
  try clear hcz11_0 hcz11_1 hcz11_10 hcz11_11 hcz11_12 hcz11_13 hcz11_2 hcz11_3 hcz11_4 hcz11_5 hcz11_6 hcz11_7 hcz11_8 hcz11_9
  try clear hcz13_0 hcz13_1 hcz13_10 hcz13_11 hcz13_12 hcz13_13 hcz13_2 hcz13_3 hcz13_4 hcz13_5 hcz13_6 hcz13_7 hcz13_8 hcz13_9
  try clear hcz5_0 hcz5_1 hcz5_10 hcz5_11 hcz5_12 hcz5_13 hcz5_2 hcz5_3 hcz5_4 hcz5_5 hcz5_6 hcz5_7 hcz5_8 hcz5_9
  try clear hcz9_0 hcz9_1 hcz9_10 hcz9_11 hcz9_12 hcz9_13 hcz9_2 hcz9_3 hcz9_4 hcz9_5 hcz9_6 hcz9_7 hcz9_8 hcz9_9
  try clear hfz11_0 hfz11_1 hfz11_10 hfz11_11 hfz11_12 hfz11_13 hfz11_2 hfz11_3 hfz11_4 hfz11_5 hfz11_6 hfz11_7 hfz11_8 hfz11_9
  try clear hfz13_0 hfz13_1 hfz13_10 hfz13_11 hfz13_12 hfz13_13 hfz13_2 hfz13_3 hfz13_4 hfz13_5 hfz13_6 hfz13_7 hfz13_8 hfz13_9
  try clear hfz5_0 hfz5_1 hfz5_10 hfz5_11 hfz5_12 hfz5_13 hfz5_2 hfz5_3 hfz5_4 hfz5_5 hfz5_6 hfz5_7 hfz5_8 hfz5_9
  try clear hfz9_0 hfz9_1 hfz9_10 hfz9_11 hfz9_12 hfz9_13 hfz9_2 hfz9_3 hfz9_4 hfz9_5 hfz9_6 hfz9_7 hfz9_8 hfz9_9
  obtain ⟨kq, x20_1, rfl, HA, HJ1, BK121, HB⟩ := hcut
  cases kq with
  | zero => exact absurd HA.out (by simp [za1.j0])
  | succ kj1 =>
   have H := HA.out
   clear HA
   simp only [za1.j0] at H
   by_cases c15 : x20_1 = true
   ·subst c15
    have H1 : (some false) = some r := by rw [if_pos rfl] at H; exact H
    clear H
    have H := H1
    clear H1
    obtain rfl := Option.some.inj H
    go_wp2
    go_ret
    exact ⟨by first | rfl | (simp [zam, zal] <;> rfl) | (simp [*, zam, zal] <;> rfl), by repeat (first | (with_reducible first | exact HB.out | apply zac | apply zaa | apply zab | refine zaf ?_ GE121.out) | exact HB.out)⟩
   ·replace c15 := Bool.eq_false_iff.mpr c15
    subst c15
    have H1 : (if a0_4 = 1 then ((zbm.f kj1 a0_5 a0_9).bind fun bt124 => (if bt124.2 = true then ((za2.f kj1 1 a0_6 a0_7 a0_8).bind fun t128 => (if t128 = true then ((zbs.f kj1 bt124.1 l0_10).bind fun t129 => (if t129 = true then (some ((l0_11.length : Int) == 0)) else (some false))) else (some false))) else (some false))) else (if a0_5 = 0 then (if a0_9 = 0 then (if (!(a0_6 == 0) || (!(a0_7 == 0) || (!(a0_8.toList == ([] : List UInt8))))) = true then (za1.j1 kj1 true a0_0 a0_1 a0_2 a0_3 a0_4 a0_5 a0_6 a0_7 a0_8 a0_9 l0_10 l0_11 a0_12 a0_13) else (za1.j1 kj1 (decide ((l0_10.length : Int) > 0)) a0_0 a0_1 a0_2 a0_3 a0_4 a0_5 a0_6 a0_7 a0_8 a0_9 l0_10 l0_11 a0_12 a0_13)) else (za1.j1 kj1 true a0_0 a0_1 a0_2 a0_3 a0_4 a0_5 a0_6 a0_7 a0_8 a0_9 l0_10 l0_11 a0_12 a0_13)) else (za1.j1 kj1 true a0_0 a0_1 a0_2 a0_3 a0_4 a0_5 a0_6 a0_7 a0_8 a0_9 l0_10 l0_11 a0_12 a0_13))) = some r := by rw [if_neg (show ¬ (false = true) by decide)] at H; exact H
    clear H
    have H := H1
    clear H1
    by_cases c16 : a0_4 = 1
    ·rw [if_pos c16] at H
     have c16b0 : (a0_4 == 1) = true := beq_iff_eq.mpr c16
     have c16b1 : (a0_4 != 1) = false := bne_eq_false_iff_eq.mpr c16
     clear c16
     replace H := Option.bind_eq_some_iff.mp H
     obtain ⟨⟨t124, t125⟩, A170, H⟩ := H
     replace H : (if t125 = true then ((za2.f kj1 1 a0_6 a0_7 a0_8).bind fun t128 => (if t128 = true then ((zbs.f kj1 t124 l0_10).bind fun t129 => (if t129 = true then (some ((l0_11.length : Int) == 0)) else (some false))) else (some false))) else (some false)) = some r := H
     have A17 := zad.mk A170
     clear A170
     by_cases c18 : t125 = true
     ·subst c18
      have H1 : ((za2.f kj1 1 a0_6 a0_7 a0_8).bind fun t128 => (if t128 = true then ((zbs.f kj1 t124 l0_10).bind fun t129 => (if t129 = true then (some ((l0_11.length : Int) == 0)) else (some false))) else (some false))) = some r := by rw [if_pos rfl] at H; exact H
      clear H
      have H := H1
      clear H1
      replace H := Option.bind_eq_some_iff.mp H
      obtain ⟨t128, A190, H⟩ := H
      replace H : (if t128 = true then ((zbs.f kj1 t124 l0_10).bind fun t129 => (if t129 = true then (some ((l0_11.length : Int) == 0)) else (some false))) else (some false)) = some r := H
      have A19 := zad.mk A190
      clear A190
      by_cases c20 : t128 = true
      ·subst c20
       have H1 : ((zbs.f kj1 t124 l0_10).bind fun t129 => (if t129 = true then (some ((l0_11.length : Int) == 0)) else (some false))) = some r := by rw [if_pos rfl] at H; exact H
       clear H
       have H := H1
       clear H1
       replace H := Option.bind_eq_some_iff.mp H
       obtain ⟨t129, A210, H⟩ := H
       replace H : (if t129 = true then (some ((l0_11.length : Int) == 0)) else (some false)) = some r := H
       have A21 := zad.mk A210
       clear A210
       by_cases c22 : t129 = true
       ·subst c22
        have H1 : (some ((l0_11.length : Int) == 0)) = some r := by rw [if_pos rfl] at H; exact H
        clear H
        have H := H1
        clear H1
        obtain rfl := Option.some.inj H
        obtain ⟨hcz23_0, hcz23_1, hcz23_2, hcz23_3, hcz23_4, hcz23_5, hcz23_6, hcz23_7, hcz23_8, hcz23_9, hcz23_10, hcz23_11, hcz23_12, hcz23_13⟩ := cq14 BK121.out
        obtain ⟨hfz23_0, hfz23_1, hfz23_2, hfz23_3, hfz23_4, hfz23_5, hfz23_6, hfz23_7, hfz23_8, hfz23_9, hfz23_10, hfz23_11, hfz23_12, hfz23_13⟩ := fq14 BK121.out
        go_wp2_with (first | ((with_reducible refine za0 (f := 42) rfl ?_); refine zbq (some 29) rfl rfl Tryd.func42 (by kernel_rfl) rfl #[.int .i64 a0_5, .int .i64 a0_9] rfl (by (try simp only [List.map_toArray, List.map_cons, List.map_nil]); first | done | rfl | (simp only [List.length_drop, List.length_take]; rfl)) ?_; (with_reducible refine (zbm.calls kj1 a0_5 a0_9 t124 true _ A17.out).mono ?_); rintro e w24 ⟨v126, rfl, ho0, hb⟩; refine ⟨_, rfl, ?_⟩; have n0_ := zad.mk (Kd.zb5 ho0 (zas (by repeat (first | (with_reducible first | exact HB.out | apply zac | apply zaa | apply zab | refine zaf ?_ GE121.out) | exact HB.out)))); have n1_ := zad.mk (zav (g := gb121) (o := .cells #[.int .i64 a0_0, .int .i64 a0_1, .int .i64 a0_2, .string a0_3, .int .i64 a0_4, .int .i64 a0_5, .int .i64 a0_6, .int .i64 a0_7, .string a0_8, .int .i64 a0_9, .slice A0_10 l0_10.length c0_10, .slice A0_11 l0_11.length c0_11, .bool a0_12, .string a0_13] 47 (0, 0)) (by (with_reducible repeat (first | refine zah ?_ _ | refine zaj ?_ | refine zai ?_ _)); exact BK121.out) hb); have n2_ := zad.mk (zaq (by repeat (first | (with_reducible first | exact HB.out | apply zac | apply zaa | apply zab | refine zaf ?_ GE121.out) | exact HB.out)) hb); clear BK121; clear HB; have HO127 := n0_; have BK121 := n1_; have HB := n2_; clear n0_ n1_ n2_; (try clear hb); (try clear hb2); (try clear hk); (try clear hi); (try clear ho0); obtain ⟨hcz25_0, hcz25_1, hcz25_2, hcz25_3, hcz25_4, hcz25_5, hcz25_6, hcz25_7, hcz25_8, hcz25_9, hcz25_10, hcz25_11, hcz25_12, hcz25_13⟩ := cq14 BK121.out; obtain ⟨hfz25_0, hfz25_1, hfz25_2, hfz25_3, hfz25_4, hfz25_5, hfz25_6, hfz25_7, hfz25_8, hfz25_9, hfz25_10, hfz25_11, hfz25_12, hfz25_13⟩ := fq14 BK121.out) | (go_at_call 40; (with_reducible refine (za2.calls kj1 1 a0_6 a0_7 a0_8 true _ ?side0 A19.out).mono ?_); (case side0 => exact zbh HG.out (by repeat (first | (with_reducible first | exact HB.out | apply zac | apply zaa | apply zab | refine zaf ?_ GE121.out) | exact HB.out))); rintro e w26 ⟨rfl, hb⟩; have n0_ := zad.mk (Kd.zb0 (by (with_reducible repeat (first | apply Kd.R_alloc | apply Kd.zbf | apply Kd.zbk)); exact HO127.out) hb); have n1_ := zad.mk (zav (g := gb121) (o := .cells #[.int .i64 a0_0, .int .i64 a0_1, .int .i64 a0_2, .string a0_3, .int .i64 a0_4, .int .i64 a0_5, .int .i64 a0_6, .int .i64 a0_7, .string a0_8, .int .i64 a0_9, .slice A0_10 l0_10.length c0_10, .slice A0_11 l0_11.length c0_11, .bool a0_12, .string a0_13] 47 (0, 0)) (by (with_reducible repeat (first | refine zah ?_ _ | refine zaj ?_ | refine zai ?_ _)); exact BK121.out) hb); have n2_ := zad.mk (zaq (by repeat (first | (with_reducible first | exact HB.out | apply zac | apply zaa | apply zab | refine zaf ?_ GE121.out) | exact HB.out)) hb); clear HO127; clear BK121; clear HB; have HO127 := n0_; have BK121 := n1_; have HB := n2_; clear n0_ n1_ n2_; (try clear hb); (try clear hb2); (try clear hk); (try clear hi); obtain ⟨hcz27_0, hcz27_1, hcz27_2, hcz27_3, hcz27_4, hcz27_5, hcz27_6, hcz27_7, hcz27_8, hcz27_9, hcz27_10, hcz27_11, hcz27_12, hcz27_13⟩ := cq14 BK121.out; obtain ⟨hfz27_0, hfz27_1, hfz27_2, hfz27_3, hfz27_4, hfz27_5, hfz27_6, hfz27_7, hfz27_8, hfz27_9, hfz27_10, hfz27_11, hfz27_12, hfz27_13⟩ := fq14 BK121.out; obtain ⟨Ao28, co28, eo28⟩ := Kd.zb9 HO127.out; subst eo28) | (go_at_call 43; (with_reducible refine (zbs.calls kj1 _ _ t124 _ _ l0_10 true _ ?side0 ?side1 ?side2 ?side3 ?side4 A21.out).mono ?_); (case side0 => exact zbh HG.out (by repeat (first | (with_reducible first | exact HB.out | apply zac | apply zaa | apply zab | refine zaf ?_ GE121.out) | exact HB.out))); (case side1 => repeat (first | exact (Kd.R_reads' HO127.out).2.2 | (with_reducible refine Kd.zb7 ?_ _) | (with_reducible refine Kd.C_drewN ?_ _) | (with_reducible refine Kd.C_drew ?_))); (case side2 => exact (Kd.R_reads' HO127.out).2.1); (case side3 => repeat (first | exact (Kd.zbn HR0_10.out HB.out) | (with_reducible refine Kd.zb7 ?_ _) | (with_reducible refine Kd.C_drewN ?_ _) | (with_reducible refine Kd.C_drew ?_))); (case side4 => exact HC0_10.out); rintro e w29 ⟨rfl, hb⟩; have n0_ := zad.mk (Kd.zb0 (by (with_reducible repeat (first | apply Kd.R_alloc | apply Kd.zbf | apply Kd.zbk)); exact HO127.out) hb); have n1_ := zad.mk (zav (g := gb121) (o := .cells #[.int .i64 a0_0, .int .i64 a0_1, .int .i64 a0_2, .string a0_3, .int .i64 a0_4, .int .i64 a0_5, .int .i64 a0_6, .int .i64 a0_7, .string a0_8, .int .i64 a0_9, .slice A0_10 l0_10.length c0_10, .slice A0_11 l0_11.length c0_11, .bool a0_12, .string a0_13] 47 (0, 0)) (by (with_reducible repeat (first | refine zah ?_ _ | refine zaj ?_ | refine zai ?_ _)); exact BK121.out) hb); have n2_ := zad.mk (zaq (by repeat (first | (with_reducible first | exact HB.out | apply zac | apply zaa | apply zab | refine zaf ?_ GE121.out) | exact HB.out)) hb); clear HO127; clear BK121; clear HB; have HO127 := n0_; have BK121 := n1_; have HB := n2_; clear n0_ n1_ n2_; (try clear hb); (try clear hb2); (try clear hk); (try clear hi); obtain ⟨hcz30_0, hcz30_1, hcz30_2, hcz30_3, hcz30_4, hcz30_5, hcz30_6, hcz30_7, hcz30_8, hcz30_9, hcz30_10, hcz30_11, hcz30_12, hcz30_13⟩ := cq14 BK121.out; obtain ⟨hfz30_0, hfz30_1, hfz30_2, hfz30_3, hfz30_4, hfz30_5, hfz30_6, hfz30_7, hfz30_8, hfz30_9, hfz30_10, hfz30_11, hfz30_12, hfz30_13⟩ := fq14 BK121.out))
        go_ret
        exact ⟨by first | rfl | (simp [zam, zal] <;> rfl) | (simp [*, zam, zal] <;> rfl), by repeat (first | (with_reducible first | exact HB.out | apply zac | apply zaa | apply zab | refine zaf ?_ GE121.out) | exact HB.out)⟩
       ·replace c22 := Bool.eq_false_iff.mpr c22
        subst c22
        have H1 : (some false) = some r := by rw [if_neg (show ¬ (false = true) by decide)] at H; exact H
        clear H
        have H := H1
        clear H1
        obtain rfl := Option.some.inj H
        obtain ⟨hcz31_0, hcz31_1, hcz31_2, hcz31_3, hcz31_4, hcz31_5, hcz31_6, hcz31_7, hcz31_8, hcz31_9, hcz31_10, hcz31_11, hcz31_12, hcz31_13⟩ := cq14 BK121.out
        obtain ⟨hfz31_0, hfz31_1, hfz31_2, hfz31_3, hfz31_4, hfz31_5, hfz31_6, hfz31_7, hfz31_8, hfz31_9, hfz31_10, hfz31_11, hfz31_12, hfz31_13⟩ := fq14 BK121.out
        go_wp2_with (first | ((with_reducible refine za0 (f := 42) rfl ?_); refine zbq (some 29) rfl rfl Tryd.func42 (by kernel_rfl) rfl #[.int .i64 a0_5, .int .i64 a0_9] rfl (by (try simp only [List.map_toArray, List.map_cons, List.map_nil]); first | done | rfl | (simp only [List.length_drop, List.length_take]; rfl)) ?_; (with_reducible refine (zbm.calls kj1 a0_5 a0_9 t124 true _ A17.out).mono ?_); rintro e w32 ⟨v126, rfl, ho0, hb⟩; refine ⟨_, rfl, ?_⟩; have n0_ := zad.mk (Kd.zb5 ho0 (zas (by repeat (first | (with_reducible first | exact HB.out | apply zac | apply zaa | apply zab | refine zaf ?_ GE121.out) | exact HB.out)))); have n1_ := zad.mk (zav (g := gb121) (o := .cells #[.int .i64 a0_0, .int .i64 a0_1, .int .i64 a0_2, .string a0_3, .int .i64 a0_4, .int .i64 a0_5, .int .i64 a0_6, .int .i64 a0_7, .string a0_8, .int .i64 a0_9, .slice A0_10 l0_10.length c0_10, .slice A0_11 l0_11.length c0_11, .bool a0_12, .string a0_13] 47 (0, 0)) (by (with_reducible repeat (first | refine zah ?_ _ | refine zaj ?_ | refine zai ?_ _)); exact BK121.out) hb); have n2_ := zad.mk (zaq (by repeat (first | (with_reducible first | exact HB.out | apply zac | apply zaa | apply zab | refine zaf ?_ GE121.out) | exact HB.out)) hb); clear BK121; clear HB; have HO127 := n0_; have BK121 := n1_; have HB := n2_; clear n0_ n1_ n2_; (try clear hb); (try clear hb2); (try clear hk); (try clear hi); (try clear ho0); obtain ⟨hcz33_0, hcz33_1, hcz33_2, hcz33_3, hcz33_4, hcz33_5, hcz33_6, hcz33_7, hcz33_8, hcz33_9, hcz33_10, hcz33_11, hcz33_12, hcz33_13⟩ := cq14 BK121.out; obtain ⟨hfz33_0, hfz33_1, hfz33_2, hfz33_3, hfz33_4, hfz33_5, hfz33_6, hfz33_7, hfz33_8, hfz33_9, hfz33_10, hfz33_11, hfz33_12, hfz33_13⟩ := fq14 BK121.out) | (go_at_call 40; (with_reducible refine (za2.calls kj1 1 a0_6 a0_7 a0_8 true _ ?side0 A19.out).mono ?_); (case side0 => exact zbh HG.out (by repeat (first | (with_reducible first | exact HB.out | apply zac | apply zaa | apply zab | refine zaf ?_ GE121.out) | exact HB.out))); rintro e w34 ⟨rfl, hb⟩; have n0_ := zad.mk (Kd.zb0 (by (with_reducible repeat (first | apply Kd.R_alloc | apply Kd.zbf | apply Kd.zbk)); exact HO127.out) hb); have n1_ := zad.mk (zav (g := gb121) (o := .cells #[.int .i64 a0_0, .int .i64 a0_1, .int .i64 a0_2, .string a0_3, .int .i64 a0_4, .int .i64 a0_5, .int .i64 a0_6, .int .i64 a0_7, .string a0_8, .int .i64 a0_9, .slice A0_10 l0_10.length c0_10, .slice A0_11 l0_11.length c0_11, .bool a0_12, .string a0_13] 47 (0, 0)) (by (with_reducible repeat (first | refine zah ?_ _ | refine zaj ?_ | refine zai ?_ _)); exact BK121.out) hb); have n2_ := zad.mk (zaq (by repeat (first | (with_reducible first | exact HB.out | apply zac | apply zaa | apply zab | refine zaf ?_ GE121.out) | exact HB.out)) hb); clear HO127; clear BK121; clear HB; have HO127 := n0_; have BK121 := n1_; have HB := n2_; clear n0_ n1_ n2_; (try clear hb); (try clear hb2); (try clear hk); (try clear hi); obtain ⟨hcz35_0, hcz35_1, hcz35_2, hcz35_3, hcz35_4, hcz35_5, hcz35_6, hcz35_7, hcz35_8, hcz35_9, hcz35_10, hcz35_11, hcz35_12, hcz35_13⟩ := cq14 BK121.out; obtain ⟨hfz35_0, hfz35_1, hfz35_2, hfz35_3, hfz35_4, hfz35_5, hfz35_6, hfz35_7, hfz35_8, hfz35_9, hfz35_10, hfz35_11, hfz35_12, hfz35_13⟩ := fq14 BK121.out; obtain ⟨Ao36, co36, eo36⟩ := Kd.zb9 HO127.out; subst eo36) | (go_at_call 43; (with_reducible refine (zbs.calls kj1 _ _ t124 _ _ l0_10 false _ ?side0 ?side1 ?side2 ?side3 ?side4 A21.out).mono ?_); (case side0 => exact zbh HG.out (by repeat (first | (with_reducible first | exact HB.out | apply zac | apply zaa | apply zab | refine zaf ?_ GE121.out) | exact HB.out))); (case side1 => repeat (first | exact (Kd.R_reads' HO127.out).2.2 | (with_reducible refine Kd.zb7 ?_ _) | (with_reducible refine Kd.C_drewN ?_ _) | (with_reducible refine Kd.C_drew ?_))); (case side2 => exact (Kd.R_reads' HO127.out).2.1); (case side3 => repeat (first | exact (Kd.zbn HR0_10.out HB.out) | (with_reducible refine Kd.zb7 ?_ _) | (with_reducible refine Kd.C_drewN ?_ _) | (with_reducible refine Kd.C_drew ?_))); (case side4 => exact HC0_10.out); rintro e w37 ⟨rfl, hb⟩; have n0_ := zad.mk (Kd.zb0 (by (with_reducible repeat (first | apply Kd.R_alloc | apply Kd.zbf | apply Kd.zbk)); exact HO127.out) hb); have n1_ := zad.mk (zav (g := gb121) (o := .cells #[.int .i64 a0_0, .int .i64 a0_1, .int .i64 a0_2, .string a0_3, .int .i64 a0_4, .int .i64 a0_5, .int .i64 a0_6, .int .i64 a0_7, .string a0_8, .int .i64 a0_9, .slice A0_10 l0_10.length c0_10, .slice A0_11 l0_11.length c0_11, .bool a0_12, .string a0_13] 47 (0, 0)) (by (with_reducible repeat (first | refine zah ?_ _ | refine zaj ?_ | refine zai ?_ _)); exact BK121.out) hb); have n2_ := zad.mk (zaq (by repeat (first | (with_reducible first | exact HB.out | apply zac | apply zaa | apply zab | refine zaf ?_ GE121.out) | exact HB.out)) hb); clear HO127; clear BK121; clear HB; have HO127 := n0_; have BK121 := n1_; have HB := n2_; clear n0_ n1_ n2_; (try clear hb); (try clear hb2); (try clear hk); (try clear hi)))
        go_ret
        exact ⟨by first | rfl | (simp [zam, zal] <;> rfl) | (simp [*, zam, zal] <;> rfl), by repeat (first | (with_reducible first | exact HB.out | apply zac | apply zaa | apply zab | refine zaf ?_ GE121.out) | exact HB.out)⟩
      ·replace c20 := Bool.eq_false_iff.mpr c20
       subst c20
       have H1 : (some false) = some r := by rw [if_neg (show ¬ (false = true) by decide)] at H; exact H
       clear H
       have H := H1
       clear H1
       obtain rfl := Option.some.inj H
       obtain ⟨hcz38_0, hcz38_1, hcz38_2, hcz38_3, hcz38_4, hcz38_5, hcz38_6, hcz38_7, hcz38_8, hcz38_9, hcz38_10, hcz38_11, hcz38_12, hcz38_13⟩ := cq14 BK121.out
       obtain ⟨hfz38_0, hfz38_1, hfz38_2, hfz38_3, hfz38_4, hfz38_5, hfz38_6, hfz38_7, hfz38_8, hfz38_9, hfz38_10, hfz38_11, hfz38_12, hfz38_13⟩ := fq14 BK121.out
       go_wp2_with (first | ((with_reducible refine za0 (f := 42) rfl ?_); refine zbq (some 29) rfl rfl Tryd.func42 (by kernel_rfl) rfl #[.int .i64 a0_5, .int .i64 a0_9] rfl (by (try simp only [List.map_toArray, List.map_cons, List.map_nil]); first | done | rfl | (simp only [List.length_drop, List.length_take]; rfl)) ?_; (with_reducible refine (zbm.calls kj1 a0_5 a0_9 t124 true _ A17.out).mono ?_); rintro e w39 ⟨v126, rfl, ho0, hb⟩; refine ⟨_, rfl, ?_⟩; have n0_ := zad.mk (Kd.zb5 ho0 (zas (by repeat (first | (with_reducible first | exact HB.out | apply zac | apply zaa | apply zab | refine zaf ?_ GE121.out) | exact HB.out)))); have n1_ := zad.mk (zav (g := gb121) (o := .cells #[.int .i64 a0_0, .int .i64 a0_1, .int .i64 a0_2, .string a0_3, .int .i64 a0_4, .int .i64 a0_5, .int .i64 a0_6, .int .i64 a0_7, .string a0_8, .int .i64 a0_9, .slice A0_10 l0_10.length c0_10, .slice A0_11 l0_11.length c0_11, .bool a0_12, .string a0_13] 47 (0, 0)) (by (with_reducible repeat (first | refine zah ?_ _ | refine zaj ?_ | refine zai ?_ _)); exact BK121.out) hb); have n2_ := zad.mk (zaq (by repeat (first | (with_reducible first | exact HB.out | apply zac | apply zaa | apply zab | refine zaf ?_ GE121.out) | exact HB.out)) hb); clear BK121; clear HB; have HO127 := n0_; have BK121 := n1_; have HB := n2_; clear n0_ n1_ n2_; (try clear hb); (try clear hb2); (try clear hk); (try clear hi); (try clear ho0); obtain ⟨hcz40_0, hcz40_1, hcz40_2, hcz40_3, hcz40_4, hcz40_5, hcz40_6, hcz40_7, hcz40_8, hcz40_9, hcz40_10, hcz40_11, hcz40_12, hcz40_13⟩ := cq14 BK121.out; obtain ⟨hfz40_0, hfz40_1, hfz40_2, hfz40_3, hfz40_4, hfz40_5, hfz40_6, hfz40_7, hfz40_8, hfz40_9, hfz40_10, hfz40_11, hfz40_12, hfz40_13⟩ := fq14 BK121.out) | (go_at_call 40; (with_reducible refine (za2.calls kj1 1 a0_6 a0_7 a0_8 false _ ?side0 A19.out).mono ?_); (case side0 => exact zbh HG.out (by repeat (first | (with_reducible first | exact HB.out | apply zac | apply zaa | apply zab | refine zaf ?_ GE121.out) | exact HB.out))); rintro e w41 ⟨rfl, hb⟩; have n0_ := zad.mk (Kd.zb0 (by (with_reducible repeat (first | apply Kd.R_alloc | apply Kd.zbf | apply Kd.zbk)); exact HO127.out) hb); have n1_ := zad.mk (zav (g := gb121) (o := .cells #[.int .i64 a0_0, .int .i64 a0_1, .int .i64 a0_2, .string a0_3, .int .i64 a0_4, .int .i64 a0_5, .int .i64 a0_6, .int .i64 a0_7, .string a0_8, .int .i64 a0_9, .slice A0_10 l0_10.length c0_10, .slice A0_11 l0_11.length c0_11, .bool a0_12, .string a0_13] 47 (0, 0)) (by (with_reducible repeat (first | refine zah ?_ _ | refine zaj ?_ | refine zai ?_ _)); exact BK121.out) hb); have n2_ := zad.mk (zaq (by repeat (first | (with_reducible first | exact HB.out | apply zac | apply zaa | apply zab | refine zaf ?_ GE121.out) | exact HB.out)) hb); clear HO127; clear BK121; clear HB; have HO127 := n0_; have BK121 := n1_; have HB := n2_; clear n0_ n1_ n2_; (try clear hb); (try clear hb2); (try clear hk); (try clear hi)))
       go_ret
       exact ⟨by first | rfl | (simp [zam, zal] <;> rfl) | (simp [*, zam, zal] <;> rfl), by repeat (first | (with_reducible first | exact HB.out | apply zac | apply zaa | apply zab | refine zaf ?_ GE121.out) | exact HB.out)⟩
     ·replace c18 := Bool.eq_false_iff.mpr c18
      subst c18
      have H1 : (some false) = some r := by rw [if_neg (show ¬ (false = true) by decide)] at H; exact H
      clear H
      have H := H1
      clear H1
      obtain rfl := Option.some.inj H
      obtain ⟨hcz42_0, hcz42_1, hcz42_2, hcz42_3, hcz42_4, hcz42_5, hcz42_6, hcz42_7, hcz42_8, hcz42_9, hcz42_10, hcz42_11, hcz42_12, hcz42_13⟩ := cq14 BK121.out
      obtain ⟨hfz42_0, hfz42_1, hfz42_2, hfz42_3, hfz42_4, hfz42_5, hfz42_6, hfz42_7, hfz42_8, hfz42_9, hfz42_10, hfz42_11, hfz42_12, hfz42_13⟩ := fq14 BK121.out
      go_wp2_with (first | ((with_reducible refine za0 (f := 42) rfl ?_); refine zbq (some 29) rfl rfl Tryd.func42 (by kernel_rfl) rfl #[.int .i64 a0_5, .int .i64 a0_9] rfl (by (try simp only [List.map_toArray, List.map_cons, List.map_nil]); first | done | rfl | (simp only [List.length_drop, List.length_take]; rfl)) ?_; (with_reducible refine (zbm.calls kj1 a0_5 a0_9 t124 false _ A17.out).mono ?_); rintro e w43 ⟨v126, rfl, ho0, hb⟩; refine ⟨_, rfl, ?_⟩; have n0_ := zad.mk (Kd.zb5 ho0 (zas (by repeat (first | (with_reducible first | exact HB.out | apply zac | apply zaa | apply zab | refine zaf ?_ GE121.out) | exact HB.out)))); have n1_ := zad.mk (zav (g := gb121) (o := .cells #[.int .i64 a0_0, .int .i64 a0_1, .int .i64 a0_2, .string a0_3, .int .i64 a0_4, .int .i64 a0_5, .int .i64 a0_6, .int .i64 a0_7, .string a0_8, .int .i64 a0_9, .slice A0_10 l0_10.length c0_10, .slice A0_11 l0_11.length c0_11, .bool a0_12, .string a0_13] 47 (0, 0)) (by (with_reducible repeat (first | refine zah ?_ _ | refine zaj ?_ | refine zai ?_ _)); exact BK121.out) hb); have n2_ := zad.mk (zaq (by repeat (first | (with_reducible first | exact HB.out | apply zac | apply zaa | apply zab | refine zaf ?_ GE121.out) | exact HB.out)) hb); clear BK121; clear HB; have HO127 := n0_; have BK121 := n1_; have HB := n2_; clear n0_ n1_ n2_; (try clear hb); (try clear hb2); (try clear hk); (try clear hi); (try clear ho0)))
      go_ret
      exact ⟨by first | rfl | (simp [zam, zal] <;> rfl) | (simp [*, zam, zal] <;> rfl), by repeat (first | (with_reducible first | exact HB.out | apply zac | apply zaa | apply zab | refine zaf ?_ GE121.out) | exact HB.out)⟩
    ·rw [if_neg c16] at H
     have c16b0 : (a0_4 == 1) = false := beq_eq_false_iff_ne.mpr c16
     have c16b1 : (a0_4 != 1) = true := bne_iff_ne.mpr c16
     have HC44 := zad.mk H
     clear H
     obtain ⟨hcz45_0, hcz45_1, hcz45_2, hcz45_3, hcz45_4, hcz45_5, hcz45_6, hcz45_7, hcz45_8, hcz45_9, hcz45_10, hcz45_11, hcz45_12, hcz45_13⟩ := cq14 BK121.out
     obtain ⟨hfz45_0, hfz45_1, hfz45_2, hfz45_3, hfz45_4, hfz45_5, hfz45_6, hfz45_7, hfz45_8, hfz45_9, hfz45_10, hfz45_11, hfz45_12, hfz45_13⟩ := fq14 BK121.out
     go_upto_region 6 with (fail)
     go_cut [69] (fun v69 wc => ∃ (kq : Nat) (x69_43 : Bool), v69 = .bool x69_43 ∧ zad (za1.j1 kq x69_43 a0_0 a0_1 a0_2 a0_3 a0_4 a0_5 a0_6 a0_7 a0_8 a0_9 l0_10 l0_11 a0_12 a0_13 = some r) ∧ zad (kq ≤ kj1) ∧ zad (wc.heap[gb121]? = some (.cells #[.int .i64 a0_0, .int .i64 a0_1, .int .i64 a0_2, .string a0_3, .int .i64 a0_4, .int .i64 a0_5, .int .i64 a0_6, .int .i64 a0_7, .string a0_8, .int .i64 a0_9, (.slice A0_10 l0_10.length c0_10), (.slice A0_11 l0_11.length c0_11), .bool a0_12, .string a0_13] 47 (0, 0))) ∧ zad (Below w.heap.size w wc))
     case first =>
      have H := HC44.out
      clear HC44
      by_cases c46 : a0_5 = 0
      ·rw [if_pos c46] at H
       have c46b0 : (a0_5 == 0) = true := beq_iff_eq.mpr c46
       have c46b1 : (a0_5 != 0) = false := bne_eq_false_iff_eq.mpr c46
       clear c46
       (first | rw [c46b0] | (simp only [i64_w]; rw [c46b0]) | skip)
       by_cases c47 : a0_9 = 0
       ·rw [if_pos c47] at H
        have c47b0 : (a0_9 == 0) = true := beq_iff_eq.mpr c47
        have c47b1 : (a0_9 != 0) = false := bne_eq_false_iff_eq.mpr c47
        clear c47
        by_cases c48 : (!(a0_6 == 0) || (!(a0_7 == 0) || (!(a0_8.toList == ([] : List UInt8))))) = true
        ·rw [if_pos c48] at H
         obtain ⟨bt, hbt⟩ : ∃ bt : Bool, (a0_6 == 0 && (a0_7 == 0 && a0_8.toList.isEmpty)) = bt := ⟨_, rfl⟩
         have hbv : bt = false := by rw [← hbt]; revert c48; cases (a0_6 == 0) <;> cases (a0_7 == 0) <;> cases a0_8.toList <;> simp
         clear c48
         have H' := zad.mk H
         clear H
         obtain ⟨hcz49_0, hcz49_1, hcz49_2, hcz49_3, hcz49_4, hcz49_5, hcz49_6, hcz49_7, hcz49_8, hcz49_9, hcz49_10, hcz49_11, hcz49_12, hcz49_13⟩ := cq14 BK121.out
         obtain ⟨hfz49_0, hfz49_1, hfz49_2, hfz49_3, hfz49_4, hfz49_5, hfz49_6, hfz49_7, hfz49_8, hfz49_9, hfz49_10, hfz49_11, hfz49_12, hfz49_13⟩ := fq14 BK121.out
         go_wp2
         go_meet
         case rel => exact ⟨_, (true), (by first | rfl | (simp; done) | (simp [*]; done)), H', ⟨by have := HJ1.out; first | omega | exact Nat.le_refl _⟩, ⟨by (with_reducible repeat (first | refine zah ?_ _ | refine zaj ?_ | refine zai ?_ _)); exact BK121.out⟩, ⟨by repeat (first | (with_reducible first | exact HB.out | apply zac | apply zaa | apply zab | refine zaf ?_ GE121.out) | exact HB.out)⟩⟩
        ·rw [if_neg c48] at H
         obtain ⟨bt, hbt⟩ : ∃ bt : Bool, (a0_6 == 0 && (a0_7 == 0 && a0_8.toList.isEmpty)) = bt := ⟨_, rfl⟩
         have hbv : bt = true := by rw [← hbt]; revert c48; cases (a0_6 == 0) <;> cases (a0_7 == 0) <;> cases a0_8.toList <;> simp
         clear c48
         have H' := zad.mk H
         clear H
         obtain ⟨hcz50_0, hcz50_1, hcz50_2, hcz50_3, hcz50_4, hcz50_5, hcz50_6, hcz50_7, hcz50_8, hcz50_9, hcz50_10, hcz50_11, hcz50_12, hcz50_13⟩ := cq14 BK121.out
         obtain ⟨hfz50_0, hfz50_1, hfz50_2, hfz50_3, hfz50_4, hfz50_5, hfz50_6, hfz50_7, hfz50_8, hfz50_9, hfz50_10, hfz50_11, hfz50_12, hfz50_13⟩ := fq14 BK121.out
         go_wp2
         go_meet
         case rel => exact ⟨_, (decide ((l0_10.length : Int) > 0)), (by first | rfl | (simp; done) | (simp [*]; done)), H', ⟨by have := HJ1.out; first | omega | exact Nat.le_refl _⟩, ⟨by (with_reducible repeat (first | refine zah ?_ _ | refine zaj ?_ | refine zai ?_ _)); exact BK121.out⟩, ⟨by repeat (first | (with_reducible first | exact HB.out | apply zac | apply zaa | apply zab | refine zaf ?_ GE121.out) | exact HB.out)⟩⟩
       ·rw [if_neg c47] at H
        have c47b0 : (a0_9 == 0) = false := beq_eq_false_iff_ne.mpr c47
        have c47b1 : (a0_9 != 0) = true := bne_iff_ne.mpr c47
        have H' := zad.mk H
        clear H
        obtain ⟨hcz51_0, hcz51_1, hcz51_2, hcz51_3, hcz51_4, hcz51_5, hcz51_6, hcz51_7, hcz51_8, hcz51_9, hcz51_10, hcz51_11, hcz51_12, hcz51_13⟩ := cq14 BK121.out
        obtain ⟨hfz51_0, hfz51_1, hfz51_2, hfz51_3, hfz51_4, hfz51_5, hfz51_6, hfz51_7, hfz51_8, hfz51_9, hfz51_10, hfz51_11, hfz51_12, hfz51_13⟩ := fq14 BK121.out
        go_wp2
        go_meet
        case rel => exact ⟨_, (true), (by first | rfl | (simp; done) | (simp [*]; done)), H', ⟨by have := HJ1.out; first | omega | exact Nat.le_refl _⟩, ⟨by (with_reducible repeat (first | refine zah ?_ _ | refine zaj ?_ | refine zai ?_ _)); exact BK121.out⟩, ⟨by repeat (first | (with_reducible first | exact HB.out | apply zac | apply zaa | apply zab | refine zaf ?_ GE121.out) | exact HB.out)⟩⟩
      ·rw [if_neg c46] at H
       have c46b0 : (a0_5 == 0) = false := beq_eq_false_iff_ne.mpr c46
       have c46b1 : (a0_5 != 0) = true := bne_iff_ne.mpr c46
       (first | rw [c46b0] | (simp only [i64_w]; rw [c46b0]) | skip)
       have H' := zad.mk H
       clear H
       obtain ⟨hcz52_0, hcz52_1, hcz52_2, hcz52_3, hcz52_4, hcz52_5, hcz52_6, hcz52_7, hcz52_8, hcz52_9, hcz52_10, hcz52_11, hcz52_12, hcz52_13⟩ := cq14 BK121.out
       obtain ⟨hfz52_0, hfz52_1, hfz52_2, hfz52_3, hfz52_4, hfz52_5, hfz52_6, hfz52_7, hfz52_8, hfz52_9, hfz52_10, hfz52_11, hfz52_12, hfz52_13⟩ := fq14 BK121.out
       go_wp2
       go_meet
       case rel => exact ⟨_, (true), (by first | rfl | (simp; done) | (simp [*]; done)), H', ⟨by have := HJ1.out; first | omega | exact Nat.le_refl _⟩, ⟨by (with_reducible repeat (first | refine zah ?_ _ | refine zaj ?_ | refine zai ?_ _)); exact BK121.out⟩, ⟨by repeat (first | (with_reducible first | exact HB.out | apply zac | apply zaa | apply zab | refine zaf ?_ GE121.out) | exact HB.out)⟩⟩
     case rest =>
      clear HC44
      try clear c1
      try clear c2
      try clear p2 p2
      try clear c3
      try clear c4
      try clear c4b0
      try clear c7
      try clear c15
      try clear c16
      try clear c16b0
      try clear c16b1
      try clear c18
      try clear c20
      try clear c22
      try clear c42 hcz42_0 hcz42_1 hcz42_10 hcz42_11 hcz42_12 hcz42_13 hcz42_2 hcz42_3 hcz42_4 hcz42_5 hcz42_6 hcz42_7 hcz42_8 hcz42_9
      try clear c46
      try clear c46b0
      try clear c46b1
      try clear c47
      try clear c47b0
      try clear c47b1
      try clear c48
      try clear c48b0
      try clear hcz11_0 hcz11_1 hcz11_10 hcz11_11 hcz11_12 hcz11_13 hcz11_2 hcz11_3 hcz11_4 hcz11_5 hcz11_6 hcz11_7 hcz11_8 hcz11_9
      try clear hcz13_0 hcz13_1 hcz13_10 hcz13_11 hcz13_12 hcz13_13 hcz13_2 hcz13_3 hcz13_4 hcz13_5 hcz13_6 hcz13_7 hcz13_8 hcz13_9
      try clear hcz23_0 hcz23_1 hcz23_10 hcz23_11 hcz23_12 hcz23_13 hcz23_2 hcz23_3 hcz23_4 hcz23_5 hcz23_6 hcz23_7 hcz23_8 hcz23_9
      try clear hcz25_0 hcz25_1 hcz25_10 hcz25_11 hcz25_12 hcz25_13 hcz25_2 hcz25_3 hcz25_4 hcz25_5 hcz25_6 hcz25_7 hcz25_8 hcz25_9
      try clear hcz27_0 hcz27_1 hcz27_10 hcz27_11 hcz27_12 hcz27_13 hcz27_2 hcz27_3 hcz27_4 hcz27_5 hcz27_6 hcz27_7 hcz27_8 hcz27_9
      try clear hcz30_0 hcz30_1 hcz30_10 hcz30_11 hcz30_12 hcz30_13 hcz30_2 hcz30_3 hcz30_4 hcz30_5 hcz30_6 hcz30_7 hcz30_8 hcz30_9
      try clear hcz31_0 hcz31_1 hcz31_10 hcz31_11 hcz31_12 hcz31_13 hcz31_2 hcz31_3 hcz31_4 hcz31_5 hcz31_6 hcz31_7 hcz31_8 hcz31_9
      try clear hcz33_0 hcz33_1 hcz33_10 hcz33_11 hcz33_12 hcz33_13 hcz33_2 hcz33_3 hcz33_4 hcz33_5 hcz33_6 hcz33_7 hcz33_8 hcz33_9
      try clear hcz35_0 hcz35_1 hcz35_10 hcz35_11 hcz35_12 hcz35_13 hcz35_2 hcz35_3 hcz35_4 hcz35_5 hcz35_6 hcz35_7 hcz35_8 hcz35_9
      try clear hcz38_0 hcz38_1 hcz38_10 hcz38_11 hcz38_12 hcz38_13 hcz38_2 hcz38_3 hcz38_4 hcz38_5 hcz38_6 hcz38_7 hcz38_8 hcz38_9
      try clear hcz40_0 hcz40_1 hcz40_10 hcz40_11 hcz40_12 hcz40_13 hcz40_2 hcz40_3 hcz40_4 hcz40_5 hcz40_6 hcz40_7 hcz40_8 hcz40_9
      try clear hcz45_0 hcz45_1 hcz45_10 hcz45_11 hcz45_12 hcz45_13 hcz45_2 hcz45_3 hcz45_4 hcz45_5 hcz45_6 hcz45_7 hcz45_8 hcz45_9
      try clear hcz49_0 hcz49_1 hcz49_10 hcz49_11 hcz49_12 hcz49_13 hcz49_2 hcz49_3 hcz49_4 hcz49_5 hcz49_6 hcz49_7 hcz49_8 hcz49_9
      try clear hcz50_0 hcz50_1 hcz50_10 hcz50_11 hcz50_12 hcz50_13 hcz50_2 hcz50_3 hcz50_4 hcz50_5 hcz50_6 hcz50_7 hcz50_8 hcz50_9
      try clear hcz51_0 hcz51_1 hcz51_10 hcz51_11 hcz51_12 hcz51_13 hcz51_2 hcz51_3 hcz51_4 hcz51_5 hcz51_6 hcz51_7 hcz51_8 hcz51_9
      try clear hcz52_0 hcz52_1 hcz52_10 hcz52_11 hcz52_12 hcz52_13 hcz52_2 hcz52_3 hcz52_4 hcz52_5 hcz52_6 hcz52_7 hcz52_8 hcz52_9
      try clear hcz5_0 hcz5_1 hcz5_10 hcz5_11 hcz5_12 hcz5_13 hcz5_2 hcz5_3 hcz5_4 hcz5_5 hcz5_6 hcz5_7 hcz5_8 hcz5_9
      try clear hcz9_0 hcz9_1 hcz9_10 hcz9_11 hcz9_12 hcz9_13 hcz9_2 hcz9_3 hcz9_4 hcz9_5 hcz9_6 hcz9_7 hcz9_8 hcz9_9
      try clear hfz11_0 hfz11_1 hfz11_10 hfz11_11 hfz11_12 hfz11_13 hfz11_2 hfz11_3 hfz11_4 hfz11_5 hfz11_6 hfz11_7 hfz11_8 hfz11_9
      try clear hfz13_0 hfz13_1 hfz13_10 hfz13_11 hfz13_12 hfz13_13 hfz13_2 hfz13_3 hfz13_4 hfz13_5 hfz13_6 hfz13_7 hfz13_8 hfz13_9
      try clear hfz23_0 hfz23_1 hfz23_10 hfz23_11 hfz23_12 hfz23_13 hfz23_2 hfz23_3 hfz23_4 hfz23_5 hfz23_6 hfz23_7 hfz23_8 hfz23_9
      try clear hfz25_0 hfz25_1 hfz25_10 hfz25_11 hfz25_12 hfz25_13 hfz25_2 hfz25_3 hfz25_4 hfz25_5 hfz25_6 hfz25_7 hfz25_8 hfz25_9
      try clear hfz27_0 hfz27_1 hfz27_10 hfz27_11 hfz27_12 hfz27_13 hfz27_2 hfz27_3 hfz27_4 hfz27_5 hfz27_6 hfz27_7 hfz27_8 hfz27_9
      try clear hfz30_0 hfz30_1 hfz30_10 hfz30_11 hfz30_12 hfz30_13 hfz30_2 hfz30_3 hfz30_4 hfz30_5 hfz30_6 hfz30_7 hfz30_8 hfz30_9
      try clear hfz31_0 hfz31_1 hfz31_10 hfz31_11 hfz31_12 hfz31_13 hfz31_2 hfz31_3 hfz31_4 hfz31_5 hfz31_6 hfz31_7 hfz31_8 hfz31_9
      try clear hfz33_0 hfz33_1 hfz33_10 hfz33_11 hfz33_12 hfz33_13 hfz33_2 hfz33_3 hfz33_4 hfz33_5 hfz33_6 hfz33_7 hfz33_8 hfz33_9
      try clear hfz35_0 hfz35_1 hfz35_10 hfz35_11 hfz35_12 hfz35_13 hfz35_2 hfz35_3 hfz35_4 hfz35_5 hfz35_6 hfz35_7 hfz35_8 hfz35_9
      try clear hfz38_0 hfz38_1 hfz38_10 hfz38_11 hfz38_12 hfz38_13 hfz38_2 hfz38_3 hfz38_4 hfz38_5 hfz38_6 hfz38_7 hfz38_8 hfz38_9
      try clear hfz40_0 hfz40_1 hfz40_10 hfz40_11 hfz40_12 hfz40_13 hfz40_2 hfz40_3 hfz40_4 hfz40_5 hfz40_6 hfz40_7 hfz40_8 hfz40_9
      try clear hfz42_0 hfz42_1 hfz42_10 hfz42_11 hfz42_12 hfz42_13 hfz42_2 hfz42_3 hfz42_4 hfz42_5 hfz42_6 hfz42_7 hfz42_8 hfz42_9
      try clear hfz45_0 hfz45_1 hfz45_10 hfz45_11 hfz45_12 hfz45_13 hfz45_2 hfz45_3 hfz45_4 hfz45_5 hfz45_6 hfz45_7 hfz45_8 hfz45_9
      try clear hfz49_0 hfz49_1 hfz49_10 hfz49_11 hfz49_12 hfz49_13 hfz49_2 hfz49_3 hfz49_4 hfz49_5 hfz49_6 hfz49_7 hfz49_8 hfz49_9
      try clear hfz50_0 hfz50_1 hfz50_10 hfz50_11 hfz50_12 hfz50_13 hfz50_2 hfz50_3 hfz50_4 hfz50_5 hfz50_6 hfz50_7 hfz50_8 hfz50_9
      try clear hfz51_0 hfz51_1 hfz51_10 hfz51_11 hfz51_12 hfz51_13 hfz51_2 hfz51_3 hfz51_4 hfz51_5 hfz51_6 hfz51_7 hfz51_8 hfz51_9
      try clear hfz52_0 hfz52_1 hfz52_10 hfz52_11 hfz52_12 hfz52_13 hfz52_2 hfz52_3 hfz52_4 hfz52_5 hfz52_6 hfz52_7 hfz52_8 hfz52_9
      try clear hfz5_0 hfz5_1 hfz5_10 hfz5_11 hfz5_12 hfz5_13 hfz5_2 hfz5_3 hfz5_4 hfz5_5 hfz5_6 hfz5_7 hfz5_8 hfz5_9
      try clear hfz9_0 hfz9_1 hfz9_10 hfz9_11 hfz9_12 hfz9_13 hfz9_2 hfz9_3 hfz9_4 hfz9_5 hfz9_6 hfz9_7 hfz9_8 hfz9_9
      obtain ⟨kq, x69_43, rfl, HA, HJ43, BK121, HB⟩ := hcut
      cases kq with
      | zero => exact absurd HA.out (by simp [za1.j1])
      | succ kj43 =>
       have H := HA.out
       clear HA
       simp only [za1.j1] at H
       by_cases c53 : x69_43 = true
       ·subst c53
        have H1 : (some false) = some r := by rw [if_pos rfl] at H; exact H
        clear H
        have H := H1
        clear H1
        obtain rfl := Option.some.inj H
        go_wp2
        go_ret
        exact ⟨by first | rfl | (simp [zam, zal] <;> rfl) | (simp [*, zam, zal] <;> rfl), by repeat (first | (with_reducible first | exact HB.out | apply zac | apply zaa | apply zab | refine zaf ?_ GE121.out) | exact HB.out)⟩
       ·replace c53 := Bool.eq_false_iff.mpr c53
        subst c53
        have H1 : (za1.l0 kj43 l0_11 (l0_11.length : Int) 0 a0_0 a0_1 a0_2 a0_3 a0_4 a0_5 a0_6 a0_7 a0_8 a0_9 l0_10 l0_11 a0_12 a0_13) = some r := by rw [if_neg (show ¬ (false = true) by decide)] at H; exact H
        clear H
        have H := H1
        clear H1
        have H' := zad.mk H
        clear H
        obtain ⟨hcz54_0, hcz54_1, hcz54_2, hcz54_3, hcz54_4, hcz54_5, hcz54_6, hcz54_7, hcz54_8, hcz54_9, hcz54_10, hcz54_11, hcz54_12, hcz54_13⟩ := cq14 BK121.out
        obtain ⟨hfz54_0, hfz54_1, hfz54_2, hfz54_3, hfz54_4, hfz54_5, hfz54_6, hfz54_7, hfz54_8, hfz54_9, hfz54_10, hfz54_11, hfz54_12, hfz54_13⟩ := fq14 BK121.out
        go_wp2
        go_loopg [73] kj43 (fun kq v73 w' => ∃ (x73_3 : Int), v73 = .int .i64 x73_3 ∧ zad (za1.l0 kq l0_11 (l0_11.length : Int) x73_3 a0_0 a0_1 a0_2 a0_3 a0_4 a0_5 a0_6 a0_7 a0_8 a0_9 l0_10 l0_11 a0_12 a0_13 = some r) ∧ zad (kq ≤ kj43) ∧ zad (w'.heap[gb121]? = some (.cells #[.int .i64 a0_0, .int .i64 a0_1, .int .i64 a0_2, .string a0_3, .int .i64 a0_4, .int .i64 a0_5, .int .i64 a0_6, .int .i64 a0_7, .string a0_8, .int .i64 a0_9, (.slice A0_10 l0_10.length c0_10), (.slice A0_11 l0_11.length c0_11), .bool a0_12, .string a0_13] 47 (0, 0))) ∧ zad (Below w.heap.size w w'))
        case atStart => exact ⟨(0), (by first | rfl | (simp; done) | (simp [*]; done)), H', ⟨Nat.le_refl _⟩, ⟨by (with_reducible repeat (first | refine zah ?_ _ | refine zaj ?_ | refine zai ?_ _)); exact BK121.out⟩, ⟨by repeat (first | (with_reducible first | exact HB.out | apply zac | apply zaa | apply zab | refine zaf ?_ GE121.out) | exact HB.out)⟩⟩
        case round =>
         clear H'
         try clear p2 p2
         try clear c4
         try clear c5 hcz5_0 hcz5_1 hcz5_10 hcz5_11 hcz5_12 hcz5_13 hcz5_2 hcz5_3 hcz5_4 hcz5_5 hcz5_6 hcz5_7 hcz5_8 hcz5_9
         try clear c42 hcz42_0 hcz42_1 hcz42_10 hcz42_11 hcz42_12 hcz42_13 hcz42_2 hcz42_3 hcz42_4 hcz42_5 hcz42_6 hcz42_7 hcz42_8 hcz42_9
         try clear c46
         try clear c46b0
         try clear c46b1
         try clear c47
         try clear c47b0
         try clear c47b1
         try clear c48
         try clear c48b0
         try clear c53
         try clear hcz11_0 hcz11_1 hcz11_10 hcz11_11 hcz11_12 hcz11_13 hcz11_2 hcz11_3 hcz11_4 hcz11_5 hcz11_6 hcz11_7 hcz11_8 hcz11_9
         try clear hcz13_0 hcz13_1 hcz13_10 hcz13_11 hcz13_12 hcz13_13 hcz13_2 hcz13_3 hcz13_4 hcz13_5 hcz13_6 hcz13_7 hcz13_8 hcz13_9
         try clear hcz23_0 hcz23_1 hcz23_10 hcz23_11 hcz23_12 hcz23_13 hcz23_2 hcz23_3 hcz23_4 hcz23_5 hcz23_6 hcz23_7 hcz23_8 hcz23_9
         try clear hcz25_0 hcz25_1 hcz25_10 hcz25_11 hcz25_12 hcz25_13 hcz25_2 hcz25_3 hcz25_4 hcz25_5 hcz25_6 hcz25_7 hcz25_8 hcz25_9
         try clear hcz27_0 hcz27_1 hcz27_10 hcz27_11 hcz27_12 hcz27_13 hcz27_2 hcz27_3 hcz27_4 hcz27_5 hcz27_6 hcz27_7 hcz27_8 hcz27_9
         try clear hcz30_0 hcz30_1 hcz30_10 hcz30_11 hcz30_12 hcz30_13 hcz30_2 hcz30_3 hcz30_4 hcz30_5 hcz30_6 hcz30_7 hcz30_8 hcz30_9
         try clear hcz31_0 hcz31_1 hcz31_10 hcz31_11 hcz31_12 hcz31_13 hcz31_2 hcz31_3 hcz31_4 hcz31_5 hcz31_6 hcz31_7 hcz31_8 hcz31_9
         try clear hcz33_0 hcz33_1 hcz33_10 hcz33_11 hcz33_12 hcz33_13 hcz33_2 hcz33_3 hcz33_4 hcz33_5 hcz33_6 hcz33_7 hcz33_8 hcz33_9
         try clear hcz35_0 hcz35_1 hcz35_10 hcz35_11 hcz35_12 hcz35_13 hcz35_2 hcz35_3 hcz35_4 hcz35_5 hcz35_6 hcz35_7 hcz35_8 hcz35_9
         try clear hcz38_0 hcz38_1 hcz38_10 hcz38_11 hcz38_12 hcz38_13 hcz38_2 hcz38_3 hcz38_4 hcz38_5 hcz38_6 hcz38_7 hcz38_8 hcz38_9
         try clear hcz40_0 hcz40_1 hcz40_10 hcz40_11 hcz40_12 hcz40_13 hcz40_2 hcz40_3 hcz40_4 hcz40_5 hcz40_6 hcz40_7 hcz40_8 hcz40_9
         try clear hcz45_0 hcz45_1 hcz45_10 hcz45_11 hcz45_12 hcz45_13 hcz45_2 hcz45_3 hcz45_4 hcz45_5 hcz45_6 hcz45_7 hcz45_8 hcz45_9
         try clear hcz49_0 hcz49_1 hcz49_10 hcz49_11 hcz49_12 hcz49_13 hcz49_2 hcz49_3 hcz49_4 hcz49_5 hcz49_6 hcz49_7 hcz49_8 hcz49_9
         try clear hcz50_0 hcz50_1 hcz50_10 hcz50_11 hcz50_12 hcz50_13 hcz50_2 hcz50_3 hcz50_4 hcz50_5 hcz50_6 hcz50_7 hcz50_8 hcz50_9
         try clear hcz51_0 hcz51_1 hcz51_10 hcz51_11 hcz51_12 hcz51_13 hcz51_2 hcz51_3 hcz51_4 hcz51_5 hcz51_6 hcz51_7 hcz51_8 hcz51_9
         try clear hcz52_0 hcz52_1 hcz52_10 hcz52_11 hcz52_12 hcz52_13 hcz52_2 hcz52_3 hcz52_4 hcz52_5 hcz52_6 hcz52_7 hcz52_8 hcz52_9
         try clear hcz54_0 hcz54_1 hcz54_10 hcz54_11 hcz54_12 hcz54_13 hcz54_2 hcz54_3 hcz54_4 hcz54_5 hcz54_6 hcz54_7 hcz54_8 hcz54_9
         try clear hcz9_0 hcz9_1 hcz9_10 hcz9_11 hcz9_12 hcz9_13 hcz9_2 hcz9_3 hcz9_4 hcz9_5 hcz9_6 hcz9_7 hcz9_8 hcz9_9
         try clear hfz11_0 hfz11_1 hfz11_10 hfz11_11 hfz11_12 hfz11_13 hfz11_2 hfz11_3 hfz11_4 hfz11_5 hfz11_6 hfz11_7 hfz11_8 hfz11_9
         try clear hfz13_0 hfz13_1 hfz13_10 hfz13_11 hfz13_12 hfz13_13 hfz13_2 hfz13_3 hfz13_4 hfz13_5 hfz13_6 hfz13_7 hfz13_8 hfz13_9
         try clear hfz23_0 hfz23_1 hfz23_10 hfz23_11 hfz23_12 hfz23_13 hfz23_2 hfz23_3 hfz23_4 hfz23_5 hfz23_6 hfz23_7 hfz23_8 hfz23_9
         try clear hfz25_0 hfz25_1 hfz25_10 hfz25_11 hfz25_12 hfz25_13 hfz25_2 hfz25_3 hfz25_4 hfz25_5 hfz25_6 hfz25_7 hfz25_8 hfz25_9
         try clear hfz27_0 hfz27_1 hfz27_10 hfz27_11 hfz27_12 hfz27_13 hfz27_2 hfz27_3 hfz27_4 hfz27_5 hfz27_6 hfz27_7 hfz27_8 hfz27_9
         try clear hfz30_0 hfz30_1 hfz30_10 hfz30_11 hfz30_12 hfz30_13 hfz30_2 hfz30_3 hfz30_4 hfz30_5 hfz30_6 hfz30_7 hfz30_8 hfz30_9
         try clear hfz31_0 hfz31_1 hfz31_10 hfz31_11 hfz31_12 hfz31_13 hfz31_2 hfz31_3 hfz31_4 hfz31_5 hfz31_6 hfz31_7 hfz31_8 hfz31_9
         try clear hfz33_0 hfz33_1 hfz33_10 hfz33_11 hfz33_12 hfz33_13 hfz33_2 hfz33_3 hfz33_4 hfz33_5 hfz33_6 hfz33_7 hfz33_8 hfz33_9
         try clear hfz35_0 hfz35_1 hfz35_10 hfz35_11 hfz35_12 hfz35_13 hfz35_2 hfz35_3 hfz35_4 hfz35_5 hfz35_6 hfz35_7 hfz35_8 hfz35_9
         try clear hfz38_0 hfz38_1 hfz38_10 hfz38_11 hfz38_12 hfz38_13 hfz38_2 hfz38_3 hfz38_4 hfz38_5 hfz38_6 hfz38_7 hfz38_8 hfz38_9
         try clear hfz40_0 hfz40_1 hfz40_10 hfz40_11 hfz40_12 hfz40_13 hfz40_2 hfz40_3 hfz40_4 hfz40_5 hfz40_6 hfz40_7 hfz40_8 hfz40_9
         try clear hfz42_0 hfz42_1 hfz42_10 hfz42_11 hfz42_12 hfz42_13 hfz42_2 hfz42_3 hfz42_4 hfz42_5 hfz42_6 hfz42_7 hfz42_8 hfz42_9
         try clear hfz45_0 hfz45_1 hfz45_10 hfz45_11 hfz45_12 hfz45_13 hfz45_2 hfz45_3 hfz45_4 hfz45_5 hfz45_6 hfz45_7 hfz45_8 hfz45_9
         try clear hfz49_0 hfz49_1 hfz49_10 hfz49_11 hfz49_12 hfz49_13 hfz49_2 hfz49_3 hfz49_4 hfz49_5 hfz49_6 hfz49_7 hfz49_8 hfz49_9
         try clear hfz50_0 hfz50_1 hfz50_10 hfz50_11 hfz50_12 hfz50_13 hfz50_2 hfz50_3 hfz50_4 hfz50_5 hfz50_6 hfz50_7 hfz50_8 hfz50_9
         try clear hfz51_0 hfz51_1 hfz51_10 hfz51_11 hfz51_12 hfz51_13 hfz51_2 hfz51_3 hfz51_4 hfz51_5 hfz51_6 hfz51_7 hfz51_8 hfz51_9
         try clear hfz52_0 hfz52_1 hfz52_10 hfz52_11 hfz52_12 hfz52_13 hfz52_2 hfz52_3 hfz52_4 hfz52_5 hfz52_6 hfz52_7 hfz52_8 hfz52_9
         try clear hfz54_0 hfz54_1 hfz54_10 hfz54_11 hfz54_12 hfz54_13 hfz54_2 hfz54_3 hfz54_4 hfz54_5 hfz54_6 hfz54_7 hfz54_8 hfz54_9
         try clear hfz5_0 hfz5_1 hfz5_10 hfz5_11 hfz5_12 hfz5_13 hfz5_2 hfz5_3 hfz5_4 hfz5_5 hfz5_6 hfz5_7 hfz5_8 hfz5_9
         try clear hfz9_0 hfz9_1 hfz9_10 hfz9_11 hfz9_12 hfz9_13 hfz9_2 hfz9_3 hfz9_4 hfz9_5 hfz9_6 hfz9_7 hfz9_8 hfz9_9
         obtain ⟨x73_3, rfl, HA, HK3, BK121, HB⟩ := hrel
         cases gk with
         | zero => exact absurd HA.out (by simp [za1.l0])
         | succ k3 =>
          have H := HA.out
          clear HA
          simp only [za1.l0] at H
          by_cases c55 : x73_3 < (l0_11.length : Int)
          ·rw [if_pos c55] at H
           have c55b0 : decide (x73_3 < (l0_11.length : Int)) = true := decide_eq_true c55
           clear c55
           by_cases c56 : 0 ≤ x73_3
           ·rw [if_pos c56] at H
            have c56b0 : decide (0 ≤ x73_3) = true := decide_eq_true c56
            clear c56
            by_cases c57 : x73_3 < (l0_11.length : Int)
            ·rw [if_pos c57] at H
             have c57b0 : decide (x73_3 < (l0_11.length : Int)) = true := decide_eq_true c57
             clear c57
             replace H := Option.bind_eq_some_iff.mp H
             obtain ⟨t132, A580, H⟩ := H
             replace H : (if t132 = true then (za1.l0 k3 l0_11 (l0_11.length : Int) (wrap64 (x73_3 + 1)) a0_0 a0_1 a0_2 a0_3 a0_4 a0_5 a0_6 a0_7 a0_8 a0_9 l0_10 l0_11 a0_12 a0_13) else (some false)) = some r := H
             have A58 := zad.mk A580
             clear A580
             by_cases c59 : t132 = true
             ·subst c59
              have H1 : (za1.l0 k3 l0_11 (l0_11.length : Int) (wrap64 (x73_3 + 1)) a0_0 a0_1 a0_2 a0_3 a0_4 a0_5 a0_6 a0_7 a0_8 a0_9 l0_10 l0_11 a0_12 a0_13) = some r := by rw [if_pos rfl] at H; exact H
              clear H
              have H := H1
              clear H1
              have H' := zad.mk H
              clear H
              have p130 : 0 ≤ (x73_3 : Int) := of_decide_eq_true (by first | (with_reducible assumption) | assumption)
              have q130 : x73_3 < (l0_11.length : Int) := of_decide_eq_true (by first | (with_reducible assumption) | assumption)
              obtain ⟨ad130, e130, hx130_0, hx130_1, hx130_2⟩ := zce HR0_11.out x73_3 p130 q130
              cases e130
              replace hx130_0 := (HB.out.cell (World.block_lt_of_cell? w _ hx130_0)).trans hx130_0
              replace hx130_1 := (HB.out.cell (World.block_lt_of_cell? w _ hx130_1)).trans hx130_1
              replace hx130_2 := (HB.out.cell (World.block_lt_of_cell? w _ hx130_2)).trans hx130_2
              replace p130 := eq_true p130
              replace q130 := eq_true q130
              go_wp2_with (first | ((with_reducible refine za7 (N := 6) rfl ?_); (try (refine zb6 (by rfl) ?_; dsimp only)); refine za8 ?hg (N := 6) ?hd (cs := #[.int .i64 0, .int .i64 0, .string (⟨#[]⟩ : ByteArray)]) (t := 38) ?hr ?_; (case hd => rfl); (case hg => rfl); (case hr => first | (go_simp; done) | (go_simp; rfl)); intro gb131 hg w60 hbox hb; have n0_ := zad.mk (zav (g := gb121) (o := .cells #[.int .i64 a0_0, .int .i64 a0_1, .int .i64 a0_2, .string a0_3, .int .i64 a0_4, .int .i64 a0_5, .int .i64 a0_6, .int .i64 a0_7, .string a0_8, .int .i64 a0_9, .slice A0_10 l0_10.length c0_10, .slice (some ad130) l0_11.length c0_11, .bool a0_12, .string a0_13] 47 (0, 0)) (by (with_reducible repeat (first | refine zah ?_ _ | refine zaj ?_ | refine zai ?_ _)); exact BK121.out) hb); have n1_ := zad.mk (zaq (by repeat (first | (with_reducible first | exact HB.out | apply zac | apply zaa | apply zab | refine zaf ?_ GE121.out) | exact HB.out)) hb); have n2_ := zad.mk (hbox); have n3_ := zad.mk ((by rw [hg]; exact (zas (by repeat (first | (with_reducible first | exact HB.out | apply zac | apply zaa | apply zab | refine zaf ?_ GE121.out) | exact HB.out))) : w.heap.size ≤ gb131)); have n4_ := zad.mk ((by rw [hg]; exact (zas (by repeat (first | (with_reducible first | exact HB.out | apply zac | apply zaa | apply zab | refine zaf ?_ GE121.out) | exact HB.out))) : w.heap.size ≤ gb131)); have n5_ := zad.mk ((by rw [hg]; exact Nat.ne_of_lt (zcd (g := gb121) (o := .cells #[.int .i64 a0_0, .int .i64 a0_1, .int .i64 a0_2, .string a0_3, .int .i64 a0_4, .int .i64 a0_5, .int .i64 a0_6, .int .i64 a0_7, .string a0_8, .int .i64 a0_9, .slice A0_10 l0_10.length c0_10, .slice (some ad130) l0_11.length c0_11, .bool a0_12, .string a0_13] 47 (0, 0)) (by (with_reducible repeat (first | refine zah ?_ _ | refine zaj ?_ | refine zai ?_ _)); exact BK121.out)) : gb121 ≠ gb131)); have n6_ := zad.mk ((by rw [hg]; exact Nat.ne_of_gt (zcd (g := gb121) (o := .cells #[.int .i64 a0_0, .int .i64 a0_1, .int .i64 a0_2, .string a0_3, .int .i64 a0_4, .int .i64 a0_5, .int .i64 a0_6, .int .i64 a0_7, .string a0_8, .int .i64 a0_9, .slice A0_10 l0_10.length c0_10, .slice (some ad130) l0_11.length c0_11, .bool a0_12, .string a0_13] 47 (0, 0)) (by (with_reducible repeat (first | refine zah ?_ _ | refine zaj ?_ | refine zai ?_ _)); exact BK121.out)) : gb131 ≠ gb121)); clear BK121; clear HB; have BK121 := n0_; have HB := n1_; have BK131 := n2_; have GW131 := n3_; have GE131 := n4_; have NB121_131 := n5_; have NB131_121 := n6_; clear n0_ n1_ n2_ n3_ n4_ n5_ n6_; clear hb hbox hg; have hnb61 := NB131_121.out; have hnc61 := NB121_131.out; obtain ⟨hcz62_0, hcz62_1, hcz62_2⟩ := cq3 BK131.out; obtain ⟨hfz62_0, hfz62_1, hfz62_2⟩ := fq3 BK131.out) | ((with_reducible refine za0 (f := 44) rfl ?_); refine zbq (some 78) rfl rfl Tryd.func44 (by kernel_rfl) rfl #[.agg #[.int .i64 ((zap l0_11 x73_3).f0), .int .i64 ((zap l0_11 x73_3).f1), .string ((zap l0_11 x73_3).f2)]] rfl (by (try simp only [List.map_toArray, List.map_cons, List.map_nil]); first | done | rfl | (simp only [List.length_drop, List.length_take]; rfl)) ?_; (with_reducible refine (zb1.calls k3 ((zap l0_11 x73_3).f0) ((zap l0_11 x73_3).f1) ((zap l0_11 x73_3).f2) true _ ?side0 A58.out).mono ?_); (case side0 => exact zbh HG.out (by repeat (first | (with_reducible first | exact HB.out | apply zac | apply zaa | apply zab | refine zaf ?_ GE121.out | refine zaf ?_ GE131.out) | exact HB.out))); rintro e w63 ⟨rfl, hb⟩; refine ⟨_, rfl, ?_⟩; have n0_ := zad.mk (zav (g := gb121) (o := .cells #[.int .i64 a0_0, .int .i64 a0_1, .int .i64 a0_2, .string a0_3, .int .i64 a0_4, .int .i64 a0_5, .int .i64 a0_6, .int .i64 a0_7, .string a0_8, .int .i64 a0_9, .slice A0_10 l0_10.length c0_10, .slice (some ad130) l0_11.length c0_11, .bool a0_12, .string a0_13] 47 (0, 0)) (by (with_reducible repeat (first | refine zah ?_ _ | refine zaj ?_ | refine zai ?_ _)); refine zbz ?_ NB121_131.out _; (with_reducible repeat (first | refine zah ?_ _ | refine zaj ?_ | refine zai ?_ _)); refine zbz ?_ NB121_131.out _; (with_reducible repeat (first | refine zah ?_ _ | refine zaj ?_ | refine zai ?_ _)); refine zbz ?_ NB121_131.out _; (with_reducible repeat (first | refine zah ?_ _ | refine zaj ?_ | refine zai ?_ _)); exact BK121.out) hb); have n1_ := zad.mk (zav (g := gb131) (o := .cells #[.int .i64 ((zap l0_11 x73_3).f0), .int .i64 ((zap l0_11 x73_3).f1), .string ((zap l0_11 x73_3).f2)] 38 (0, 0)) (by (with_reducible repeat (first | refine zah ?_ _ | refine zaj ?_ | refine zai ?_ _)); refine pq3 (.int .i64 0) (.int .i64 0) (.string (⟨#[]⟩ : ByteArray)) ?_; (with_reducible repeat (first | refine zah ?_ _ | refine zaj ?_ | refine zai ?_ _)); exact BK131.out) hb); have n2_ := zad.mk (zaq (by repeat (first | (with_reducible first | exact HB.out | apply zac | apply zaa | apply zab | refine zaf ?_ GE121.out | refine zaf ?_ GE131.out) | exact HB.out)) hb); clear BK121; clear BK131; clear HB; have BK121 := n0_; have BK131 := n1_; have HB := n2_; clear n0_ n1_ n2_; (try clear hb); (try clear hb2); (try clear hk); (try clear hi)))
              go_roundg k3
              case measure => have := HJ1.out; have := HJ43.out; have := HK3.out; omega
              case rel => exact ⟨(wrap64 (x73_3 + 1)), (by first | rfl | (simp; done) | (simp [*]; done)), H', ⟨by have := HJ1.out; have := HJ43.out; have := HK3.out; omega⟩, ⟨by (with_reducible repeat (first | refine zah ?_ _ | refine zaj ?_ | refine zai ?_ _)); exact BK121.out⟩, ⟨by repeat (first | (with_reducible first | exact HB.out | apply zac | apply zaa | apply zab | refine zaf ?_ GE121.out | refine zaf ?_ GE131.out) | exact HB.out)⟩⟩
             ·replace c59 := Bool.eq_false_iff.mpr c59
              subst c59
              have H1 : (some false) = some r := by rw [if_neg (show ¬ (false = true) by decide)] at H; exact H
              clear H
              have H := H1
              clear H1
              obtain rfl := Option.some.inj H
              have p130 : 0 ≤ (x73_3 : Int) := of_decide_eq_true (by first | (with_reducible assumption) | assumption)
              have q130 : x73_3 < (l0_11.length : Int) := of_decide_eq_true (by first | (with_reducible assumption) | assumption)
              obtain ⟨ad130, e130, hx130_0, hx130_1, hx130_2⟩ := zce HR0_11.out x73_3 p130 q130
              cases e130
              replace hx130_0 := (HB.out.cell (World.block_lt_of_cell? w _ hx130_0)).trans hx130_0
              replace hx130_1 := (HB.out.cell (World.block_lt_of_cell? w _ hx130_1)).trans hx130_1
              replace hx130_2 := (HB.out.cell (World.block_lt_of_cell? w _ hx130_2)).trans hx130_2
              replace p130 := eq_true p130
              replace q130 := eq_true q130
              go_wp2_with (first | ((with_reducible refine za7 (N := 6) rfl ?_); (try (refine zb6 (by rfl) ?_; dsimp only)); refine za8 ?hg (N := 6) ?hd (cs := #[.int .i64 0, .int .i64 0, .string (⟨#[]⟩ : ByteArray)]) (t := 38) ?hr ?_; (case hd => rfl); (case hg => rfl); (case hr => first | (go_simp; done) | (go_simp; rfl)); intro gb131 hg w64 hbox hb; have n0_ := zad.mk (zav (g := gb121) (o := .cells #[.int .i64 a0_0, .int .i64 a0_1, .int .i64 a0_2, .string a0_3, .int .i64 a0_4, .int .i64 a0_5, .int .i64 a0_6, .int .i64 a0_7, .string a0_8, .int .i64 a0_9, .slice A0_10 l0_10.length c0_10, .slice (some ad130) l0_11.length c0_11, .bool a0_12, .string a0_13] 47 (0, 0)) (by (with_reducible repeat (first | refine zah ?_ _ | refine zaj ?_ | refine zai ?_ _)); exact BK121.out) hb); have n1_ := zad.mk (zaq (by repeat (first | (with_reducible first | exact HB.out | apply zac | apply zaa | apply zab | refine zaf ?_ GE121.out) | exact HB.out)) hb); have n2_ := zad.mk (hbox); have n3_ := zad.mk ((by rw [hg]; exact (zas (by repeat (first | (with_reducible first | exact HB.out | apply zac | apply zaa | apply zab | refine zaf ?_ GE121.out) | exact HB.out))) : w.heap.size ≤ gb131)); have n4_ := zad.mk ((by rw [hg]; exact (zas (by repeat (first | (with_reducible first | exact HB.out | apply zac | apply zaa | apply zab | refine zaf ?_ GE121.out) | exact HB.out))) : w.heap.size ≤ gb131)); have n5_ := zad.mk ((by rw [hg]; exact Nat.ne_of_lt (zcd (g := gb121) (o := .cells #[.int .i64 a0_0, .int .i64 a0_1, .int .i64 a0_2, .string a0_3, .int .i64 a0_4, .int .i64 a0_5, .int .i64 a0_6, .int .i64 a0_7, .string a0_8, .int .i64 a0_9, .slice A0_10 l0_10.length c0_10, .slice (some ad130) l0_11.length c0_11, .bool a0_12, .string a0_13] 47 (0, 0)) (by (with_reducible repeat (first | refine zah ?_ _ | refine zaj ?_ | refine zai ?_ _)); exact BK121.out)) : gb121 ≠ gb131)); have n6_ := zad.mk ((by rw [hg]; exact Nat.ne_of_gt (zcd (g := gb121) (o := .cells #[.int .i64 a0_0, .int .i64 a0_1, .int .i64 a0_2, .string a0_3, .int .i64 a0_4, .int .i64 a0_5, .int .i64 a0_6, .int .i64 a0_7, .string a0_8, .int .i64 a0_9, .slice A0_10 l0_10.length c0_10, .slice (some ad130) l0_11.length c0_11, .bool a0_12, .string a0_13] 47 (0, 0)) (by (with_reducible repeat (first | refine zah ?_ _ | refine zaj ?_ | refine zai ?_ _)); exact BK121.out)) : gb131 ≠ gb121)); clear BK121; clear HB; have BK121 := n0_; have HB := n1_; have BK131 := n2_; have GW131 := n3_; have GE131 := n4_; have NB121_131 := n5_; have NB131_121 := n6_; clear n0_ n1_ n2_ n3_ n4_ n5_ n6_; clear hb hbox hg; have hnb65 := NB131_121.out; have hnc65 := NB121_131.out; obtain ⟨hcz66_0, hcz66_1, hcz66_2⟩ := cq3 BK131.out; obtain ⟨hfz66_0, hfz66_1, hfz66_2⟩ := fq3 BK131.out) | ((with_reducible refine za0 (f := 44) rfl ?_); refine zbq (some 78) rfl rfl Tryd.func44 (by kernel_rfl) rfl #[.agg #[.int .i64 ((zap l0_11 x73_3).f0), .int .i64 ((zap l0_11 x73_3).f1), .string ((zap l0_11 x73_3).f2)]] rfl (by (try simp only [List.map_toArray, List.map_cons, List.map_nil]); first | done | rfl | (simp only [List.length_drop, List.length_take]; rfl)) ?_; (with_reducible refine (zb1.calls k3 ((zap l0_11 x73_3).f0) ((zap l0_11 x73_3).f1) ((zap l0_11 x73_3).f2) false _ ?side0 A58.out).mono ?_); (case side0 => exact zbh HG.out (by repeat (first | (with_reducible first | exact HB.out | apply zac | apply zaa | apply zab | refine zaf ?_ GE121.out | refine zaf ?_ GE131.out) | exact HB.out))); rintro e w67 ⟨rfl, hb⟩; refine ⟨_, rfl, ?_⟩; have n0_ := zad.mk (zav (g := gb121) (o := .cells #[.int .i64 a0_0, .int .i64 a0_1, .int .i64 a0_2, .string a0_3, .int .i64 a0_4, .int .i64 a0_5, .int .i64 a0_6, .int .i64 a0_7, .string a0_8, .int .i64 a0_9, .slice A0_10 l0_10.length c0_10, .slice (some ad130) l0_11.length c0_11, .bool a0_12, .string a0_13] 47 (0, 0)) (by (with_reducible repeat (first | refine zah ?_ _ | refine zaj ?_ | refine zai ?_ _)); refine zbz ?_ NB121_131.out _; (with_reducible repeat (first | refine zah ?_ _ | refine zaj ?_ | refine zai ?_ _)); refine zbz ?_ NB121_131.out _; (with_reducible repeat (first | refine zah ?_ _ | refine zaj ?_ | refine zai ?_ _)); refine zbz ?_ NB121_131.out _; (with_reducible repeat (first | refine zah ?_ _ | refine zaj ?_ | refine zai ?_ _)); exact BK121.out) hb); have n1_ := zad.mk (zav (g := gb131) (o := .cells #[.int .i64 ((zap l0_11 x73_3).f0), .int .i64 ((zap l0_11 x73_3).f1), .string ((zap l0_11 x73_3).f2)] 38 (0, 0)) (by (with_reducible repeat (first | refine zah ?_ _ | refine zaj ?_ | refine zai ?_ _)); refine pq3 (.int .i64 0) (.int .i64 0) (.string (⟨#[]⟩ : ByteArray)) ?_; (with_reducible repeat (first | refine zah ?_ _ | refine zaj ?_ | refine zai ?_ _)); exact BK131.out) hb); have n2_ := zad.mk (zaq (by repeat (first | (with_reducible first | exact HB.out | apply zac | apply zaa | apply zab | refine zaf ?_ GE121.out | refine zaf ?_ GE131.out) | exact HB.out)) hb); clear BK121; clear BK131; clear HB; have BK121 := n0_; have BK131 := n1_; have HB := n2_; clear n0_ n1_ n2_; (try clear hb); (try clear hb2); (try clear hk); (try clear hi)))
              go_ret
              exact ⟨by first | rfl | (simp [zam, zal] <;> rfl) | (simp [*, zam, zal] <;> rfl), by repeat (first | (with_reducible first | exact HB.out | apply zac | apply zaa | apply zab | refine zaf ?_ GE121.out | refine zaf ?_ GE131.out) | exact HB.out)⟩
            ·rw [if_neg c57] at H
             exact absurd H (by simp)
           ·rw [if_neg c56] at H
            exact absurd H (by simp)
          ·rw [if_neg c55] at H
           have c55b0 : decide (x73_3 < (l0_11.length : Int)) = false := decide_eq_false c55
           clear c55
           by_cases c68 : a0_4 = 2
           ·rw [if_pos c68] at H
            have c68b0 : (a0_4 == 2) = true := beq_iff_eq.mpr c68
            have c68b1 : (a0_4 != 2) = false := bne_eq_false_iff_eq.mpr c68
            clear c68
            obtain rfl := Option.some.inj H
            obtain ⟨hcz69_0, hcz69_1, hcz69_2, hcz69_3, hcz69_4, hcz69_5, hcz69_6, hcz69_7, hcz69_8, hcz69_9, hcz69_10, hcz69_11, hcz69_12, hcz69_13⟩ := cq14 BK121.out
            obtain ⟨hfz69_0, hfz69_1, hfz69_2, hfz69_3, hfz69_4, hfz69_5, hfz69_6, hfz69_7, hfz69_8, hfz69_9, hfz69_10, hfz69_11, hfz69_12, hfz69_13⟩ := fq14 BK121.out
            go_wp2
            go_ret
            exact ⟨by first | rfl | (simp [zam, zal] <;> rfl) | (simp [*, zam, zal] <;> rfl), by repeat (first | (with_reducible first | exact HB.out | apply zac | apply zaa | apply zab | refine zaf ?_ GE121.out) | exact HB.out)⟩
           ·rw [if_neg c68] at H
            have c68b0 : (a0_4 == 2) = false := beq_eq_false_iff_ne.mpr c68
            have c68b1 : (a0_4 != 2) = true := bne_iff_ne.mpr c68
            by_cases c70 : a0_4 = 3
            ·rw [if_pos c70] at H
             have c70b0 : (a0_4 == 3) = true := beq_iff_eq.mpr c70
             have c70b1 : (a0_4 != 3) = false := bne_eq_false_iff_eq.mpr c70
             clear c70
             obtain rfl := Option.some.inj H
             obtain ⟨hcz71_0, hcz71_1, hcz71_2, hcz71_3, hcz71_4, hcz71_5, hcz71_6, hcz71_7, hcz71_8, hcz71_9, hcz71_10, hcz71_11, hcz71_12, hcz71_13⟩ := cq14 BK121.out
             obtain ⟨hfz71_0, hfz71_1, hfz71_2, hfz71_3, hfz71_4, hfz71_5, hfz71_6, hfz71_7, hfz71_8, hfz71_9, hfz71_10, hfz71_11, hfz71_12, hfz71_13⟩ := fq14 BK121.out
             go_wp2
             go_ret
             exact ⟨by first | rfl | (simp [zam, zal] <;> rfl) | (simp [*, zam, zal] <;> rfl), by repeat (first | (with_reducible first | exact HB.out | apply zac | apply zaa | apply zab | refine zaf ?_ GE121.out) | exact HB.out)⟩
            ·rw [if_neg c70] at H
             have c70b0 : (a0_4 == 3) = false := beq_eq_false_iff_ne.mpr c70
             have c70b1 : (a0_4 != 3) = true := bne_iff_ne.mpr c70
             by_cases c72 : a0_4 = 4
             ·rw [if_pos c72] at H
              have c72b0 : (a0_4 == 4) = true := beq_iff_eq.mpr c72
              have c72b1 : (a0_4 != 4) = false := bne_eq_false_iff_eq.mpr c72
              clear c72
              obtain rfl := Option.some.inj H
              obtain ⟨hcz73_0, hcz73_1, hcz73_2, hcz73_3, hcz73_4, hcz73_5, hcz73_6, hcz73_7, hcz73_8, hcz73_9, hcz73_10, hcz73_11, hcz73_12, hcz73_13⟩ := cq14 BK121.out
              obtain ⟨hfz73_0, hfz73_1, hfz73_2, hfz73_3, hfz73_4, hfz73_5, hfz73_6, hfz73_7, hfz73_8, hfz73_9, hfz73_10, hfz73_11, hfz73_12, hfz73_13⟩ := fq14 BK121.out
              go_wp2
              go_ret
              exact ⟨by first | rfl | (simp [zam, zal] <;> rfl) | (simp [*, zam, zal] <;> rfl), by repeat (first | (with_reducible first | exact HB.out | apply zac | apply zaa | apply zab | refine zaf ?_ GE121.out) | exact HB.out)⟩
             ·rw [if_neg c72] at H
              have c72b0 : (a0_4 == 4) = false := beq_eq_false_iff_ne.mpr c72
              have c72b1 : (a0_4 != 4) = true := bne_iff_ne.mpr c72
              obtain rfl := Option.some.inj H
              obtain ⟨hcz74_0, hcz74_1, hcz74_2, hcz74_3, hcz74_4, hcz74_5, hcz74_6, hcz74_7, hcz74_8, hcz74_9, hcz74_10, hcz74_11, hcz74_12, hcz74_13⟩ := cq14 BK121.out
              obtain ⟨hfz74_0, hfz74_1, hfz74_2, hfz74_3, hfz74_4, hfz74_5, hfz74_6, hfz74_7, hfz74_8, hfz74_9, hfz74_10, hfz74_11, hfz74_12, hfz74_13⟩ := fq14 BK121.out
              go_wp2
              go_ret
              exact ⟨by first | rfl | (simp [zam, zal] <;> rfl) | (simp [*, zam, zal] <;> rfl), by repeat (first | (with_reducible first | exact HB.out | apply zac | apply zaa | apply zab | refine zaf ?_ GE121.out) | exact HB.out)⟩
end Go.Proofs.YtikmmigfdchcpaaDoor.PP
