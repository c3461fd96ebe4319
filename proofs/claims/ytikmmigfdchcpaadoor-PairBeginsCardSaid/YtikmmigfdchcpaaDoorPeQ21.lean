/-
  Proved: a part of the proof of the claim's statement (text Q21 of it).
  Conditions: none of ours.
-/
import Derived.Test.YtikmmigfdchcpaaDoorPeQ0
import Derived.Test.YtikmmigfdchcpaaDoorPeQ1
import Derived.Test.YtikmmigfdchcpaaDoorPeQ4
import Derived.Test.YtikmmigfdchcpaaDoorPeQ5
import Derived.Test.YtikmmigfdchcpaaDoorPeQ15
import Derived.Test.YtikmmigfdchcpaaDoorPeQ19
import Derived.Test.YtikmmigfdchcpaaDoorPeQ20
namespace Go.Proofs.YtikmmigfdchcpaaDoor.PP
open Go.RowKit Go.Proofs.YtikmmigfdchcpaaDoorW.PrintWords Go.Proofs.YtikmmigfdchcpaaDoorW.PrintLast Go.Proofs.YtikmmigfdchcpaaDoorW.PrintMore
set_option linter.unusedVariables false
set_option linter.unusedSimpArgs false
attribute [local go_sem high] eqA38
/-! ### zar: function 33 -/
mutual
def zar.j0 : Nat → Bool → Int → Int → Int → ByteArray → Int → Int → Int → Int → ByteArray → Int → List (S38) → List (S38) → Bool → ByteArray → Option (Bool)
 | 0, _, _, _, _, _, _, _, _, _, _, _, _, _, _, _ => none
 | k + 1, x20, x122000, x122001, x122002, x122003, x122004, x122005, x122006, x122007, x122008, x122009, x122010, x122011, x122012, x122013 => if x20 = true then (some false) else (if x122004 = 1 then ((zbc.f k x122005 x122009).bind fun bt124 => (if bt124.2 = true then ((zas.f k 1 x122006 x122007 x122008).bind fun t128 => (if t128 = true then ((zbe.f k bt124.1 x122010).bind fun t129 => (if t129 = true then (some ((x122011.length : Int) == 0)) else (some false))) else (some false))) else (some false))) else (if x122005 = 0 then (if x122009 = 0 then (if (!(x122006 == 0) || (!(x122007 == 0) || (!(x122008.toList == ([] : List UInt8))))) = true then (zar.j1 k true x122000 x122001 x122002 x122003 x122004 x122005 x122006 x122007 x122008 x122009 x122010 x122011 x122012 x122013) else (zar.j1 k (decide ((x122010.length : Int) > 0)) x122000 x122001 x122002 x122003 x122004 x122005 x122006 x122007 x122008 x122009 x122010 x122011 x122012 x122013)) else (zar.j1 k true x122000 x122001 x122002 x122003 x122004 x122005 x122006 x122007 x122008 x122009 x122010 x122011 x122012 x122013)) else (zar.j1 k true x122000 x122001 x122002 x122003 x122004 x122005 x122006 x122007 x122008 x122009 x122010 x122011 x122012 x122013)))
def zar.j1 : Nat → Bool → Int → Int → Int → ByteArray → Int → Int → Int → Int → ByteArray → Int → List (S38) → List (S38) → Bool → ByteArray → Option (Bool)
 | 0, _, _, _, _, _, _, _, _, _, _, _, _, _, _, _ => none
 | k + 1, x69, x122000, x122001, x122002, x122003, x122004, x122005, x122006, x122007, x122008, x122009, x122010, x122011, x122012, x122013 => if x69 = true then (some false) else (zar.l0 k x122011 (x122011.length : Int) 0 x122000 x122001 x122002 x122003 x122004 x122005 x122006 x122007 x122008 x122009 x122010 x122011 x122012 x122013)
def zar.l0 : Nat → List (S38) → Int → Int → Int → Int → Int → ByteArray → Int → Int → Int → Int → ByteArray → Int → List (S38) → List (S38) → Bool → ByteArray → Option (Bool)
 | 0, _, _, _, _, _, _, _, _, _, _, _, _, _, _, _, _, _ => none
 | k + 1, x71, x72, x73, x122000, x122001, x122002, x122003, x122004, x122005, x122006, x122007, x122008, x122009, x122010, x122011, x122012, x122013 => if x73 < x72 then (if 0 ≤ x73 then (if x73 < (x71.length : Int) then ((zbj.f k ((zai x71 x73).f0) ((zai x71 x73).f1) ((zai x71 x73).f2)).bind fun t132 => (if t132 = true then (zar.l0 k x71 x72 (wrap64 (x73 + 1)) x122000 x122001 x122002 x122003 x122004 x122005 x122006 x122007 x122008 x122009 x122010 x122011 x122012 x122013) else (some false))) else (none)) else (none)) else (if x122004 = 2 then (some true) else (if x122004 = 3 then (some ((x122011.length : Int) == 0)) else (if x122004 = 4 then (some ((x122011.length : Int) == 0)) else (some false))))
end
def zar.f (k : Nat) (a0_0 : Int) (a0_1 : Int) (a0_2 : Int) (a0_3 : ByteArray) (a0_4 : Int) (a0_5 : Int) (a0_6 : Int) (a0_7 : Int) (a0_8 : ByteArray) (a0_9 : Int) (l0_10 : List (S38)) (l0_11 : List (S38)) (a0_12 : Bool) (a0_13 : ByteArray) : Option (Bool) := if a0_0 < 0 then (zar.j0 k true a0_0 a0_1 a0_2 a0_3 a0_4 a0_5 a0_6 a0_7 a0_8 a0_9 l0_10 l0_11 a0_12 a0_13) else ((zas.f k 0 a0_1 a0_2 a0_3).bind fun t122 => (if t122 = true then ((zbu.f a0_0 a0_1 a0_2 a0_3 a0_4 a0_5 a0_6 a0_7 a0_8 a0_9 l0_10 l0_11 a0_12 a0_13).bind fun t123 => (zar.j0 k (!t123) a0_0 a0_1 a0_2 a0_3 a0_4 a0_5 a0_6 a0_7 a0_8 a0_9 l0_10 l0_11 a0_12 a0_13)) else (zar.j0 k true a0_0 a0_1 a0_2 a0_3 a0_4 a0_5 a0_6 a0_7 a0_8 a0_9 l0_10 l0_11 a0_12 a0_13)))
set_option maxHeartbeats 8000000 in
set_option maxRecDepth 100000 in
theorem zar.calls (k : Nat) (a0_0 : Int) (a0_1 : Int) (a0_2 : Int) (a0_3 : ByteArray) (a0_4 : Int) (a0_5 : Int) (a0_6 : Int) (a0_7 : Int) (a0_8 : ByteArray) (a0_9 : Int) (A0_10 : Option Addr) (c0_10 : Nat) (l0_10 : List (S38)) (A0_11 : Option Addr) (c0_11 : Nat) (l0_11 : List (S38)) (a0_12 : Bool) (a0_13 : ByteArray) (r : Bool) (w : World) (hG : Glob w) (hr0_10 : Kd.C k38 w A0_10 l0_10.length l0_10) (hc0_10 : l0_10.length ≤ c0_10) (hr0_11 : Kd.C k38 w A0_11 l0_11.length l0_11) (hc0_11 : l0_11.length ≤ c0_11) (h : zar.f k a0_0 a0_1 a0_2 a0_3 a0_4 a0_5 a0_6 a0_7 a0_8 a0_9 l0_10 l0_11 a0_12 a0_13 = some r) :
  Calls Tryd.prog 33 #[.agg #[.int .i64 a0_0, .int .i64 a0_1, .int .i64 a0_2, .string a0_3, .int .i64 a0_4, .int .i64 a0_5, .int .i64 a0_6, .int .i64 a0_7, .string a0_8, .int .i64 a0_9, .slice A0_10 l0_10.length c0_10, .slice A0_11 l0_11.length c0_11, .bool a0_12, .string a0_13]] w fun e w' => e = .returned (.bool r) ∧ Below w.heap.size w w' := by
 have hu47 := Tryd.underlying47
 have hu38 := Tryd.underlying38
 have HR0_10 := zab.mk hr0_10
 have HC0_10 := zab.mk hc0_10
 clear hr0_10 hc0_10
 have HR0_11 := zab.mk hr0_11
 have HC0_11 := zab.mk hc0_11
 clear hr0_11 hc0_11
 have HB := zab.mk (Below.refl w.heap.size w)
 have HG := zab.mk hG
 clear hG
 have H : (if a0_0 < 0 then (zar.j0 k true a0_0 a0_1 a0_2 a0_3 a0_4 a0_5 a0_6 a0_7 a0_8 a0_9 l0_10 l0_11 a0_12 a0_13) else ((zas.f k 0 a0_1 a0_2 a0_3).bind fun t122 => (if t122 = true then ((zbu.f a0_0 a0_1 a0_2 a0_3 a0_4 a0_5 a0_6 a0_7 a0_8 a0_9 l0_10 l0_11 a0_12 a0_13).bind fun t123 => (zar.j0 k (!t123) a0_0 a0_1 a0_2 a0_3 a0_4 a0_5 a0_6 a0_7 a0_8 a0_9 l0_10 l0_11 a0_12 a0_13)) else (zar.j0 k true a0_0 a0_1 a0_2 a0_3 a0_4 a0_5 a0_6 a0_7 a0_8 a0_9 l0_10 l0_11 a0_12 a0_13)))) = some r := h
 clear h
 have HC2 := zab.mk H
 clear H
 go_enter Tryd.func33, Tryd.ntmps33
 go_upto_region 1 with (first | ((with_reducible refine za2 (N := 1) rfl ?_); (try (refine gate_guard (by rfl) ?_; dsimp only)); refine zay ?hg (N := 1) ?hd (cs := #[.int .i64 a0_0, .int .i64 a0_1, .int .i64 a0_2, .string a0_3, .int .i64 a0_4, .int .i64 a0_5, .int .i64 a0_6, .int .i64 a0_7, .string a0_8, .int .i64 a0_9, .slice A0_10 l0_10.length c0_10, .slice A0_11 l0_11.length c0_11, .bool a0_12, .string a0_13]) (t := 47) ?hr ?_; (case hd => rfl); (case hg => rfl); (case hr => first | (go_simp; done) | (go_simp; rfl)); intro gb121 hg w3 hbox hb; have n0_ := zab.mk (zal (by repeat with_reducible first | exact HB.out | apply zac | apply zaa | apply zad) hb); have n1_ := zab.mk (hbox); have n2_ := zab.mk ((by rw [hg]; exact (zaq (by repeat with_reducible first | exact HB.out | apply zac | apply zaa | apply zad)) : w.heap.size ≤ gb121)); have n3_ := n2_; clear HB; have HB := n0_; have BK121 := n1_; have GW121 := n2_; have GE121 := n3_; clear n0_ n1_ n2_ n3_; clear hb hbox hg))
 (try simp only [Act.put, List.setIfInBounds_toArray, List.set_cons_zero, List.set_cons_succ])
 go_cut [20] (fun v20 wc => ∃ (kq : Nat) (x20_1 : Bool), v20 = .bool x20_1 ∧ zab (zar.j0 kq x20_1 a0_0 a0_1 a0_2 a0_3 a0_4 a0_5 a0_6 a0_7 a0_8 a0_9 l0_10 l0_11 a0_12 a0_13 = some r) ∧ zab (kq ≤ k) ∧ zab (wc.heap[gb121]? = some (.cells #[.int .i64 a0_0, .int .i64 a0_1, .int .i64 a0_2, .string a0_3, .int .i64 a0_4, .int .i64 a0_5, .int .i64 a0_6, .int .i64 a0_7, .string a0_8, .int .i64 a0_9, (.slice A0_10 l0_10.length c0_10), (.slice A0_11 l0_11.length c0_11), .bool a0_12, .string a0_13] 47 (0, 0))) ∧ zab (Below w.heap.size w wc))
 case first =>
  have H := HC2.out
  clear HC2
  by_cases c4 : a0_0 < 0
  ·rw [if_pos c4] at H
   have c4b0 : decide (a0_0 < 0) = true := decide_eq_true c4
   clear c4
   (first | rw [c4b0] | (simp only [i64_w]; rw [c4b0]) | skip)
   have H' := zab.mk H
   clear H
   obtain ⟨d5_0, d5_1, d5_2, d5_3, d5_4, d5_5, d5_6, d5_7, d5_8, d5_9, d5_10, d5_11, d5_12, d5_13⟩ := cq14 BK121.out
   obtain ⟨e5_0, e5_1, e5_2, e5_3, e5_4, e5_5, e5_6, e5_7, e5_8, e5_9, e5_10, e5_11, e5_12, e5_13⟩ := fq14 BK121.out
   go_wp2
   go_meet
   case rel => exact ⟨_, (true), (by first | rfl | (simp; done) | (simp [*]; done)), H', ⟨by first | omega | exact Nat.le_refl _⟩, ⟨by (with_reducible repeat (first | refine zaj ?_ _ | refine zam ?_ | refine zak ?_ _)); exact BK121.out⟩, ⟨by repeat with_reducible first | exact HB.out | apply zac | apply zaa | apply zad | refine zag ?_ GE121.out⟩⟩
  ·rw [if_neg c4] at H
   have c4b0 : decide (a0_0 < 0) = false := decide_eq_false c4
   clear c4
   (first | rw [c4b0] | (simp only [i64_w]; rw [c4b0]) | skip)
   replace H := Option.bind_eq_some_iff.mp H
   obtain ⟨t122, A60, H⟩ := H
   replace H : (if t122 = true then ((zbu.f a0_0 a0_1 a0_2 a0_3 a0_4 a0_5 a0_6 a0_7 a0_8 a0_9 l0_10 l0_11 a0_12 a0_13).bind fun t123 => (zar.j0 k (!t123) a0_0 a0_1 a0_2 a0_3 a0_4 a0_5 a0_6 a0_7 a0_8 a0_9 l0_10 l0_11 a0_12 a0_13)) else (zar.j0 k true a0_0 a0_1 a0_2 a0_3 a0_4 a0_5 a0_6 a0_7 a0_8 a0_9 l0_10 l0_11 a0_12 a0_13)) = some r := H
   have A6 := zab.mk A60
   clear A60
   by_cases c7 : t122 = true
   ·subst c7
    have H1 : ((zbu.f a0_0 a0_1 a0_2 a0_3 a0_4 a0_5 a0_6 a0_7 a0_8 a0_9 l0_10 l0_11 a0_12 a0_13).bind fun t123 => (zar.j0 k (!t123) a0_0 a0_1 a0_2 a0_3 a0_4 a0_5 a0_6 a0_7 a0_8 a0_9 l0_10 l0_11 a0_12 a0_13)) = some r := by rw [if_pos rfl] at H; exact H
    clear H
    have H := H1
    clear H1
    replace H := Option.bind_eq_some_iff.mp H
    obtain ⟨t123, A80, H⟩ := H
    replace H : (zar.j0 k (!t123) a0_0 a0_1 a0_2 a0_3 a0_4 a0_5 a0_6 a0_7 a0_8 a0_9 l0_10 l0_11 a0_12 a0_13) = some r := H
    have A8 := zab.mk A80
    clear A80
    have H' := zab.mk H
    clear H
    obtain ⟨d9_0, d9_1, d9_2, d9_3, d9_4, d9_5, d9_6, d9_7, d9_8, d9_9, d9_10, d9_11, d9_12, d9_13⟩ := cq14 BK121.out
    obtain ⟨e9_0, e9_1, e9_2, e9_3, e9_4, e9_5, e9_6, e9_7, e9_8, e9_9, e9_10, e9_11, e9_12, e9_13⟩ := fq14 BK121.out
    go_wp2_with (first | (go_at_call 40; (with_reducible refine (zas.calls k 0 a0_1 a0_2 a0_3 true _ ?side0 A6.out).mono ?_); (case side0 => exact za7 HG.out (by repeat with_reducible first | exact HB.out | apply zac | apply zaa | apply zad | refine zag ?_ GE121.out)); rintro e w10 ⟨rfl, hb⟩; have n0_ := zab.mk (zaw (g := gb121) (o := .cells #[.int .i64 a0_0, .int .i64 a0_1, .int .i64 a0_2, .string a0_3, .int .i64 a0_4, .int .i64 a0_5, .int .i64 a0_6, .int .i64 a0_7, .string a0_8, .int .i64 a0_9, .slice A0_10 l0_10.length c0_10, .slice A0_11 l0_11.length c0_11, .bool a0_12, .string a0_13] 47 (0, 0)) (by (with_reducible repeat (first | refine zaj ?_ _ | refine zam ?_ | refine zak ?_ _)); exact BK121.out) hb); have n1_ := zab.mk (zal (by repeat with_reducible first | exact HB.out | apply zac | apply zaa | apply zad | refine zag ?_ GE121.out) hb); clear BK121; clear HB; have BK121 := n0_; have HB := n1_; clear n0_ n1_; (try clear hb); (try clear hb2); (try clear hk); (try clear hi); obtain ⟨d11_0, d11_1, d11_2, d11_3, d11_4, d11_5, d11_6, d11_7, d11_8, d11_9, d11_10, d11_11, d11_12, d11_13⟩ := cq14 BK121.out; obtain ⟨e11_0, e11_1, e11_2, e11_3, e11_4, e11_5, e11_6, e11_7, e11_8, e11_9, e11_10, e11_11, e11_12, e11_13⟩ := fq14 BK121.out) | (go_at_call 41; (with_reducible refine (zbu.calls a0_0 a0_1 a0_2 a0_3 a0_4 a0_5 a0_6 a0_7 a0_8 a0_9 _ _ l0_10 _ _ l0_11 a0_12 a0_13 t123 _ ?side1 ?side2 ?side3 ?side4 A8.out).mono ?_); (case side1 => repeat (first | exact (Kd.za9 HR0_10.out HB.out) | (with_reducible refine Kd.zbn ?_ _) | (with_reducible refine Kd.C_drewN ?_ _) | (with_reducible refine Kd.C_drew ?_))); (case side2 => exact HC0_10.out); (case side3 => repeat (first | exact (Kd.za9 HR0_11.out HB.out) | (with_reducible refine Kd.zbn ?_ _) | (with_reducible refine Kd.C_drewN ?_ _) | (with_reducible refine Kd.C_drew ?_))); (case side4 => exact HC0_11.out); rintro e w12 ⟨rfl, hb⟩; have n0_ := zab.mk (zaw (g := gb121) (o := .cells #[.int .i64 a0_0, .int .i64 a0_1, .int .i64 a0_2, .string a0_3, .int .i64 a0_4, .int .i64 a0_5, .int .i64 a0_6, .int .i64 a0_7, .string a0_8, .int .i64 a0_9, .slice A0_10 l0_10.length c0_10, .slice A0_11 l0_11.length c0_11, .bool a0_12, .string a0_13] 47 (0, 0)) (by (with_reducible repeat (first | refine zaj ?_ _ | refine zam ?_ | refine zak ?_ _)); exact BK121.out) hb); have n1_ := zab.mk (zal (by repeat with_reducible first | exact HB.out | apply zac | apply zaa | apply zad | refine zag ?_ GE121.out) hb); clear BK121; clear HB; have BK121 := n0_; have HB := n1_; clear n0_ n1_; (try clear hb); (try clear hb2); (try clear hk); (try clear hi)))
    go_meet
    case rel => exact ⟨_, (!t123), (by first | rfl | (simp; done) | (simp [*]; done)), H', ⟨by first | omega | exact Nat.le_refl _⟩, ⟨by (with_reducible repeat (first | refine zaj ?_ _ | refine zam ?_ | refine zak ?_ _)); exact BK121.out⟩, ⟨by repeat with_reducible first | exact HB.out | apply zac | apply zaa | apply zad | refine zag ?_ GE121.out⟩⟩
   ·replace c7 := Bool.eq_false_iff.mpr c7
    subst c7
    have H1 : (zar.j0 k true a0_0 a0_1 a0_2 a0_3 a0_4 a0_5 a0_6 a0_7 a0_8 a0_9 l0_10 l0_11 a0_12 a0_13) = some r := by rw [if_neg (show ¬ (false = true) by decide)] at H; exact H
    clear H
    have H := H1
    clear H1
    have H' := zab.mk H
    clear H
    obtain ⟨d13_0, d13_1, d13_2, d13_3, d13_4, d13_5, d13_6, d13_7, d13_8, d13_9, d13_10, d13_11, d13_12, d13_13⟩ := cq14 BK121.out
    obtain ⟨e13_0, e13_1, e13_2, e13_3, e13_4, e13_5, e13_6, e13_7, e13_8, e13_9, e13_10, e13_11, e13_12, e13_13⟩ := fq14 BK121.out
    go_wp2_with (first | (go_at_call 40; (with_reducible refine (zas.calls k 0 a0_1 a0_2 a0_3 false _ ?side0 A6.out).mono ?_); (case side0 => exact za7 HG.out (by repeat with_reducible first | exact HB.out | apply zac | apply zaa | apply zad | refine zag ?_ GE121.out)); rintro e w14 ⟨rfl, hb⟩; have n0_ := zab.mk (zaw (g := gb121) (o := .cells #[.int .i64 a0_0, .int .i64 a0_1, .int .i64 a0_2, .string a0_3, .int .i64 a0_4, .int .i64 a0_5, .int .i64 a0_6, .int .i64 a0_7, .string a0_8, .int .i64 a0_9, .slice A0_10 l0_10.length c0_10, .slice A0_11 l0_11.length c0_11, .bool a0_12, .string a0_13] 47 (0, 0)) (by (with_reducible repeat (first | refine zaj ?_ _ | refine zam ?_ | refine zak ?_ _)); exact BK121.out) hb); have n1_ := zab.mk (zal (by repeat with_reducible first | exact HB.out | apply zac | apply zaa | apply zad | refine zag ?_ GE121.out) hb); clear BK121; clear HB; have BK121 := n0_; have HB := n1_; clear n0_ n1_; (try clear hb); (try clear hb2); (try clear hk); (try clear hi)))
    go_meet
    case rel => exact ⟨_, (true), (by first | rfl | (simp; done) | (simp [*]; done)), H', ⟨by first | omega | exact Nat.le_refl _⟩, ⟨by (with_reducible repeat (first | refine zaj ?_ _ | refine zam ?_ | refine zak ?_ _)); exact BK121.out⟩, ⟨by repeat with_reducible first | exact HB.out | apply zac | apply zaa | apply zad | refine zag ?_ GE121.out⟩⟩
 case rest =>
  clear HC2
  try clear p2
  try clear c3
  try clear c4
  try clear c4b0
  try clear c7
  try clear d11_0 d11_1 d11_10 d11_11 d11_12 d11_13 d11_2 d11_3 d11_4 d11_5 d11_6 d11_7 d11_8 d11_9
  try clear d13_0 d13_1 d13_10 d13_11 d13_12 d13_13 d13_2 d13_3 d13_4 d13_5 d13_6 d13_7 d13_8 d13_9
  try clear d5_0 d5_1 d5_10 d5_11 d5_12 d5_13 d5_2 d5_3 d5_4 d5_5 d5_6 d5_7 d5_8 d5_9
  try clear d9_0 d9_1 d9_10 d9_11 d9_12 d9_13 d9_2 d9_3 d9_4 d9_5 d9_6 d9_7 d9_8 d9_9
  try clear e11_0 e11_1 e11_10 e11_11 e11_12 e11_13 e11_2 e11_3 e11_4 e11_5 e11_6 e11_7 e11_8 e11_9
  try clear e13_0 e13_1 e13_10 e13_11 e13_12 e13_13 e13_2 e13_3 e13_4 e13_5 e13_6 e13_7 e13_8 e13_9
  try clear e5_0 e5_1 e5_10 e5_11 e5_12 e5_13 e5_2 e5_3 e5_4 e5_5 e5_6 e5_7 e5_8 e5_9
  try clear e9_0 e9_1 e9_10 e9_11 e9_12 e9_13 e9_2 e9_3 e9_4 e9_5 e9_6 e9_7 e9_8 e9_9
  obtain ⟨kq, x20_1, rfl, HA, HJ1, BK121, HB⟩ := hcut
  cases kq with
  | zero => exact absurd HA.out (by simp [zar.j0])
  | succ kj1 =>
   have H := HA.out
   clear HA
   simp only [zar.j0] at H
   by_cases c15 : x20_1 = true
   ·subst c15
    have H1 : (some false) = some r := by rw [if_pos rfl] at H; exact H
    clear H
    have H := H1
    clear H1
    obtain rfl := Option.some.inj H
    go_wp2
    go_ret
    exact ⟨by first | rfl | (simp [zao, zan] <;> rfl) | (simp [*, zao, zan] <;> rfl), by repeat with_reducible first | exact HB.out | apply zac | apply zaa | apply zad | refine zag ?_ GE121.out⟩
   ·replace c15 := Bool.eq_false_iff.mpr c15
    subst c15
    have H1 : (if a0_4 = 1 then ((zbc.f kj1 a0_5 a0_9).bind fun bt124 => (if bt124.2 = true then ((zas.f kj1 1 a0_6 a0_7 a0_8).bind fun t128 => (if t128 = true then ((zbe.f kj1 bt124.1 l0_10).bind fun t129 => (if t129 = true then (some ((l0_11.length : Int) == 0)) else (some false))) else (some false))) else (some false))) else (if a0_5 = 0 then (if a0_9 = 0 then (if (!(a0_6 == 0) || (!(a0_7 == 0) || (!(a0_8.toList == ([] : List UInt8))))) = true then (zar.j1 kj1 true a0_0 a0_1 a0_2 a0_3 a0_4 a0_5 a0_6 a0_7 a0_8 a0_9 l0_10 l0_11 a0_12 a0_13) else (zar.j1 kj1 (decide ((l0_10.length : Int) > 0)) a0_0 a0_1 a0_2 a0_3 a0_4 a0_5 a0_6 a0_7 a0_8 a0_9 l0_10 l0_11 a0_12 a0_13)) else (zar.j1 kj1 true a0_0 a0_1 a0_2 a0_3 a0_4 a0_5 a0_6 a0_7 a0_8 a0_9 l0_10 l0_11 a0_12 a0_13)) else (zar.j1 kj1 true a0_0 a0_1 a0_2 a0_3 a0_4 a0_5 a0_6 a0_7 a0_8 a0_9 l0_10 l0_11 a0_12 a0_13))) = some r := by rw [if_neg (show ¬ (false = true) by decide)] at H; exact H
    clear H
    have H := H1
    clear H1
    by_cases c16 : a0_4 = 1
    ·rw [if_pos c16] at H
     have c16b0 : (a0_4 == 1) = true := beq_iff_eq.mpr c16
     have c16b1 : (a0_4 != 1) = false := bne_eq_false_iff_eq.mpr c16
     clear c16
     replace H := Option.bind_eq_some_iff.mp H
     obtain ⟨⟨t124, t125⟩, A170, H⟩ := H
     replace H : (if t125 = true then ((zas.f kj1 1 a0_6 a0_7 a0_8).bind fun t128 => (if t128 = true then ((zbe.f kj1 t124 l0_10).bind fun t129 => (if t129 = true then (some ((l0_11.length : Int) == 0)) else (some false))) else (some false))) else (some false)) = some r := H
     have A17 := zab.mk A170
     clear A170
     by_cases c18 : t125 = true
     ·subst c18
      have H1 : ((zas.f kj1 1 a0_6 a0_7 a0_8).bind fun t128 => (if t128 = true then ((zbe.f kj1 t124 l0_10).bind fun t129 => (if t129 = true then (some ((l0_11.length : Int) == 0)) else (some false))) else (some false))) = some r := by rw [if_pos rfl] at H; exact H
      clear H
      have H := H1
      clear H1
      replace H := Option.bind_eq_some_iff.mp H
      obtain ⟨t128, A190, H⟩ := H
      replace H : (if t128 = true then ((zbe.f kj1 t124 l0_10).bind fun t129 => (if t129 = true then (some ((l0_11.length : Int) == 0)) else (some false))) else (some false)) = some r := H
      have A19 := zab.mk A190
      clear A190
      by_cases c20 : t128 = true
      ·subst c20
       have H1 : ((zbe.f kj1 t124 l0_10).bind fun t129 => (if t129 = true then (some ((l0_11.length : Int) == 0)) else (some false))) = some r := by rw [if_pos rfl] at H; exact H
       clear H
       have H := H1
       clear H1
       replace H := Option.bind_eq_some_iff.mp H
       obtain ⟨t129, A210, H⟩ := H
       replace H : (if t129 = true then (some ((l0_11.length : Int) == 0)) else (some false)) = some r := H
       have A21 := zab.mk A210
       clear A210
       by_cases c22 : t129 = true
       ·subst c22
        have H1 : (some ((l0_11.length : Int) == 0)) = some r := by rw [if_pos rfl] at H; exact H
        clear H
        have H := H1
        clear H1
        obtain rfl := Option.some.inj H
        obtain ⟨d23_0, d23_1, d23_2, d23_3, d23_4, d23_5, d23_6, d23_7, d23_8, d23_9, d23_10, d23_11, d23_12, d23_13⟩ := cq14 BK121.out
        obtain ⟨e23_0, e23_1, e23_2, e23_3, e23_4, e23_5, e23_6, e23_7, e23_8, e23_9, e23_10, e23_11, e23_12, e23_13⟩ := fq14 BK121.out
        go_wp2_with (first | ((with_reducible refine za6 (f := 42) rfl ?_); refine zbo (some 29) rfl rfl Tryd.func42 (by kernel_rfl) rfl #[.int .i64 a0_5, .int .i64 a0_9] rfl (by (try simp only [List.map_toArray, List.map_cons, List.map_nil]); first | done | rfl | (simp only [List.length_drop, List.length_take]; rfl)) ?_; (with_reducible refine (zbc.calls kj1 a0_5 a0_9 t124 true _ A17.out).mono ?_); rintro e w24 ⟨v126, rfl, ho0, hb⟩; refine ⟨_, rfl, ?_⟩; have n0_ := zab.mk (Kd.zcd ho0 (zaq (by repeat with_reducible first | exact HB.out | apply zac | apply zaa | apply zad | refine zag ?_ GE121.out))); have n1_ := zab.mk (zaw (g := gb121) (o := .cells #[.int .i64 a0_0, .int .i64 a0_1, .int .i64 a0_2, .string a0_3, .int .i64 a0_4, .int .i64 a0_5, .int .i64 a0_6, .int .i64 a0_7, .string a0_8, .int .i64 a0_9, .slice A0_10 l0_10.length c0_10, .slice A0_11 l0_11.length c0_11, .bool a0_12, .string a0_13] 47 (0, 0)) (by (with_reducible repeat (first | refine zaj ?_ _ | refine zam ?_ | refine zak ?_ _)); exact BK121.out) hb); have n2_ := zab.mk (zal (by repeat with_reducible first | exact HB.out | apply zac | apply zaa | apply zad | refine zag ?_ GE121.out) hb); clear BK121; clear HB; have HO127 := n0_; have BK121 := n1_; have HB := n2_; clear n0_ n1_ n2_; (try clear hb); (try clear hb2); (try clear hk); (try clear hi); (try clear ho0); obtain ⟨d25_0, d25_1, d25_2, d25_3, d25_4, d25_5, d25_6, d25_7, d25_8, d25_9, d25_10, d25_11, d25_12, d25_13⟩ := cq14 BK121.out; obtain ⟨e25_0, e25_1, e25_2, e25_3, e25_4, e25_5, e25_6, e25_7, e25_8, e25_9, e25_10, e25_11, e25_12, e25_13⟩ := fq14 BK121.out) | (go_at_call 40; (with_reducible refine (zas.calls kj1 1 a0_6 a0_7 a0_8 true _ ?side0 A19.out).mono ?_); (case side0 => exact za7 HG.out (by repeat with_reducible first | exact HB.out | apply zac | apply zaa | apply zad | refine zag ?_ GE121.out)); rintro e w26 ⟨rfl, hb⟩; have n0_ := zab.mk (Kd.zbv (by (with_reducible repeat (first | apply Kd.R_alloc | apply Kd.zbs | apply Kd.R_drew)); exact HO127.out) hb); have n1_ := zab.mk (zaw (g := gb121) (o := .cells #[.int .i64 a0_0, .int .i64 a0_1, .int .i64 a0_2, .string a0_3, .int .i64 a0_4, .int .i64 a0_5, .int .i64 a0_6, .int .i64 a0_7, .string a0_8, .int .i64 a0_9, .slice A0_10 l0_10.length c0_10, .slice A0_11 l0_11.length c0_11, .bool a0_12, .string a0_13] 47 (0, 0)) (by (with_reducible repeat (first | refine zaj ?_ _ | refine zam ?_ | refine zak ?_ _)); exact BK121.out) hb); have n2_ := zab.mk (zal (by repeat with_reducible first | exact HB.out | apply zac | apply zaa | apply zad | refine zag ?_ GE121.out) hb); clear HO127; clear BK121; clear HB; have HO127 := n0_; have BK121 := n1_; have HB := n2_; clear n0_ n1_ n2_; (try clear hb); (try clear hb2); (try clear hk); (try clear hi); obtain ⟨d27_0, d27_1, d27_2, d27_3, d27_4, d27_5, d27_6, d27_7, d27_8, d27_9, d27_10, d27_11, d27_12, d27_13⟩ := cq14 BK121.out; obtain ⟨e27_0, e27_1, e27_2, e27_3, e27_4, e27_5, e27_6, e27_7, e27_8, e27_9, e27_10, e27_11, e27_12, e27_13⟩ := fq14 BK121.out; obtain ⟨Ao28, co28, eo28⟩ := Kd.R_slice HO127.out; subst eo28) | (go_at_call 43; (with_reducible refine (zbe.calls kj1 _ _ t124 _ _ l0_10 true _ ?side0 ?side1 ?side2 ?side3 ?side4 A21.out).mono ?_); (case side0 => exact za7 HG.out (by repeat with_reducible first | exact HB.out | apply zac | apply zaa | apply zad | refine zag ?_ GE121.out)); (case side1 => repeat (first | exact (Kd.R_reads' HO127.out).2.2 | (with_reducible refine Kd.zbn ?_ _) | (with_reducible refine Kd.C_drewN ?_ _) | (with_reducible refine Kd.C_drew ?_))); (case side2 => exact (Kd.R_reads' HO127.out).2.1); (case side3 => repeat (first | exact (Kd.za9 HR0_10.out HB.out) | (with_reducible refine Kd.zbn ?_ _) | (with_reducible refine Kd.C_drewN ?_ _) | (with_reducible refine Kd.C_drew ?_))); (case side4 => exact HC0_10.out); rintro e w29 ⟨rfl, hb⟩; have n0_ := zab.mk (Kd.zbv (by (with_reducible repeat (first | apply Kd.R_alloc | apply Kd.zbs | apply Kd.R_drew)); exact HO127.out) hb); have n1_ := zab.mk (zaw (g := gb121) (o := .cells #[.int .i64 a0_0, .int .i64 a0_1, .int .i64 a0_2, .string a0_3, .int .i64 a0_4, .int .i64 a0_5, .int .i64 a0_6, .int .i64 a0_7, .string a0_8, .int .i64 a0_9, .slice A0_10 l0_10.length c0_10, .slice A0_11 l0_11.length c0_11, .bool a0_12, .string a0_13] 47 (0, 0)) (by (with_reducible repeat (first | refine zaj ?_ _ | refine zam ?_ | refine zak ?_ _)); exact BK121.out) hb); have n2_ := zab.mk (zal (by repeat with_reducible first | exact HB.out | apply zac | apply zaa | apply zad | refine zag ?_ GE121.out) hb); clear HO127; clear BK121; clear HB; have HO127 := n0_; have BK121 := n1_; have HB := n2_; clear n0_ n1_ n2_; (try clear hb); (try clear hb2); (try clear hk); (try clear hi); obtain ⟨d30_0, d30_1, d30_2, d30_3, d30_4, d30_5, d30_6, d30_7, d30_8, d30_9, d30_10, d30_11, d30_12, d30_13⟩ := cq14 BK121.out; obtain ⟨e30_0, e30_1, e30_2, e30_3, e30_4, e30_5, e30_6, e30_7, e30_8, e30_9, e30_10, e30_11, e30_12, e30_13⟩ := fq14 BK121.out))
        go_ret
        exact ⟨by first | rfl | (simp [zao, zan] <;> rfl) | (simp [*, zao, zan] <;> rfl), by repeat with_reducible first | exact HB.out | apply zac | apply zaa | apply zad | refine zag ?_ GE121.out⟩
       ·replace c22 := Bool.eq_false_iff.mpr c22
        subst c22
        have H1 : (some false) = some r := by rw [if_neg (show ¬ (false = true) by decide)] at H; exact H
        clear H
        have H := H1
        clear H1
        obtain rfl := Option.some.inj H
        obtain ⟨d31_0, d31_1, d31_2, d31_3, d31_4, d31_5, d31_6, d31_7, d31_8, d31_9, d31_10, d31_11, d31_12, d31_13⟩ := cq14 BK121.out
        obtain ⟨e31_0, e31_1, e31_2, e31_3, e31_4, e31_5, e31_6, e31_7, e31_8, e31_9, e31_10, e31_11, e31_12, e31_13⟩ := fq14 BK121.out
        go_wp2_with (first | ((with_reducible refine za6 (f := 42) rfl ?_); refine zbo (some 29) rfl rfl Tryd.func42 (by kernel_rfl) rfl #[.int .i64 a0_5, .int .i64 a0_9] rfl (by (try simp only [List.map_toArray, List.map_cons, List.map_nil]); first | done | rfl | (simp only [List.length_drop, List.length_take]; rfl)) ?_; (with_reducible refine (zbc.calls kj1 a0_5 a0_9 t124 true _ A17.out).mono ?_); rintro e w32 ⟨v126, rfl, ho0, hb⟩; refine ⟨_, rfl, ?_⟩; have n0_ := zab.mk (Kd.zcd ho0 (zaq (by repeat with_reducible first | exact HB.out | apply zac | apply zaa | apply zad | refine zag ?_ GE121.out))); have n1_ := zab.mk (zaw (g := gb121) (o := .cells #[.int .i64 a0_0, .int .i64 a0_1, .int .i64 a0_2, .string a0_3, .int .i64 a0_4, .int .i64 a0_5, .int .i64 a0_6, .int .i64 a0_7, .string a0_8, .int .i64 a0_9, .slice A0_10 l0_10.length c0_10, .slice A0_11 l0_11.length c0_11, .bool a0_12, .string a0_13] 47 (0, 0)) (by (with_reducible repeat (first | refine zaj ?_ _ | refine zam ?_ | refine zak ?_ _)); exact BK121.out) hb); have n2_ := zab.mk (zal (by repeat with_reducible first | exact HB.out | apply zac | apply zaa | apply zad | refine zag ?_ GE121.out) hb); clear BK121; clear HB; have HO127 := n0_; have BK121 := n1_; have HB := n2_; clear n0_ n1_ n2_; (try clear hb); (try clear hb2); (try clear hk); (try clear hi); (try clear ho0); obtain ⟨d33_0, d33_1, d33_2, d33_3, d33_4, d33_5, d33_6, d33_7, d33_8, d33_9, d33_10, d33_11, d33_12, d33_13⟩ := cq14 BK121.out; obtain ⟨e33_0, e33_1, e33_2, e33_3, e33_4, e33_5, e33_6, e33_7, e33_8, e33_9, e33_10, e33_11, e33_12, e33_13⟩ := fq14 BK121.out) | (go_at_call 40; (with_reducible refine (zas.calls kj1 1 a0_6 a0_7 a0_8 true _ ?side0 A19.out).mono ?_); (case side0 => exact za7 HG.out (by repeat with_reducible first | exact HB.out | apply zac | apply zaa | apply zad | refine zag ?_ GE121.out)); rintro e w34 ⟨rfl, hb⟩; have n0_ := zab.mk (Kd.zbv (by (with_reducible repeat (first | apply Kd.R_alloc | apply Kd.zbs | apply Kd.R_drew)); exact HO127.out) hb); have n1_ := zab.mk (zaw (g := gb121) (o := .cells #[.int .i64 a0_0, .int .i64 a0_1, .int .i64 a0_2, .string a0_3, .int .i64 a0_4, .int .i64 a0_5, .int .i64 a0_6, .int .i64 a0_7, .string a0_8, .int .i64 a0_9, .slice A0_10 l0_10.length c0_10, .slice A0_11 l0_11.length c0_11, .bool a0_12, .string a0_13] 47 (0, 0)) (by (with_reducible repeat (first | refine zaj ?_ _ | refine zam ?_ | refine zak ?_ _)); exact BK121.out) hb); have n2_ := zab.mk (zal (by repeat with_reducible first | exact HB.out | apply zac | apply zaa | apply zad | refine zag ?_ GE121.out) hb); clear HO127; clear BK121; clear HB; have HO127 := n0_; have BK121 := n1_; have HB := n2_; clear n0_ n1_ n2_; (try clear hb); (try clear hb2); (try clear hk); (try clear hi); obtain ⟨d35_0, d35_1, d35_2, d35_3, d35_4, d35_5, d35_6, d35_7, d35_8, d35_9, d35_10, d35_11, d35_12, d35_13⟩ := cq14 BK121.out; obtain ⟨e35_0, e35_1, e35_2, e35_3, e35_4, e35_5, e35_6, e35_7, e35_8, e35_9, e35_10, e35_11, e35_12, e35_13⟩ := fq14 BK121.out; obtain ⟨Ao36, co36, eo36⟩ := Kd.R_slice HO127.out; subst eo36) | (go_at_call 43; (with_reducible refine (zbe.calls kj1 _ _ t124 _ _ l0_10 false _ ?side0 ?side1 ?side2 ?side3 ?side4 A21.out).mono ?_); (case side0 => exact za7 HG.out (by repeat with_reducible first | exact HB.out | apply zac | apply zaa | apply zad | refine zag ?_ GE121.out)); (case side1 => repeat (first | exact (Kd.R_reads' HO127.out).2.2 | (with_reducible refine Kd.zbn ?_ _) | (with_reducible refine Kd.C_drewN ?_ _) | (with_reducible refine Kd.C_drew ?_))); (case side2 => exact (Kd.R_reads' HO127.out).2.1); (case side3 => repeat (first | exact (Kd.za9 HR0_10.out HB.out) | (with_reducible refine Kd.zbn ?_ _) | (with_reducible refine Kd.C_drewN ?_ _) | (with_reducible refine Kd.C_drew ?_))); (case side4 => exact HC0_10.out); rintro e w37 ⟨rfl, hb⟩; have n0_ := zab.mk (Kd.zbv (by (with_reducible repeat (first | apply Kd.R_alloc | apply Kd.zbs | apply Kd.R_drew)); exact HO127.out) hb); have n1_ := zab.mk (zaw (g := gb121) (o := .cells #[.int .i64 a0_0, .int .i64 a0_1, .int .i64 a0_2, .string a0_3, .int .i64 a0_4, .int .i64 a0_5, .int .i64 a0_6, .int .i64 a0_7, .string a0_8, .int .i64 a0_9, .slice A0_10 l0_10.length c0_10, .slice A0_11 l0_11.length c0_11, .bool a0_12, .string a0_13] 47 (0, 0)) (by (with_reducible repeat (first | refine zaj ?_ _ | refine zam ?_ | refine zak ?_ _)); exact BK121.out) hb); have n2_ := zab.mk (zal (by repeat with_reducible first | exact HB.out | apply zac | apply zaa | apply zad | refine zag ?_ GE121.out) hb); clear HO127; clear BK121; clear HB; have HO127 := n0_; have BK121 := n1_; have HB := n2_; clear n0_ n1_ n2_; (try clear hb); (try clear hb2); (try clear hk); (try clear hi)))
        go_ret
        exact ⟨by first | rfl | (simp [zao, zan] <;> rfl) | (simp [*, zao, zan] <;> rfl), by repeat with_reducible first | exact HB.out | apply zac | apply zaa | apply zad | refine zag ?_ GE121.out⟩
      ·replace c20 := Bool.eq_false_iff.mpr c20
       subst c20
       have H1 : (some false) = some r := by rw [if_neg (show ¬ (false = true) by decide)] at H; exact H
       clear H
       have H := H1
       clear H1
       obtain rfl := Option.some.inj H
       obtain ⟨d38_0, d38_1, d38_2, d38_3, d38_4, d38_5, d38_6, d38_7, d38_8, d38_9, d38_10, d38_11, d38_12, d38_13⟩ := cq14 BK121.out
       obtain ⟨e38_0, e38_1, e38_2, e38_3, e38_4, e38_5, e38_6, e38_7, e38_8, e38_9, e38_10, e38_11, e38_12, e38_13⟩ := fq14 BK121.out
       go_wp2_with (first | ((with_reducible refine za6 (f := 42) rfl ?_); refine zbo (some 29) rfl rfl Tryd.func42 (by kernel_rfl) rfl #[.int .i64 a0_5, .int .i64 a0_9] rfl (by (try simp only [List.map_toArray, List.map_cons, List.map_nil]); first | done | rfl | (simp only [List.length_drop, List.length_take]; rfl)) ?_; (with_reducible refine (zbc.calls kj1 a0_5 a0_9 t124 true _ A17.out).mono ?_); rintro e w39 ⟨v126, rfl, ho0, hb⟩; refine ⟨_, rfl, ?_⟩; have n0_ := zab.mk (Kd.zcd ho0 (zaq (by repeat with_reducible first | exact HB.out | apply zac | apply zaa | apply zad | refine zag ?_ GE121.out))); have n1_ := zab.mk (zaw (g := gb121) (o := .cells #[.int .i64 a0_0, .int .i64 a0_1, .int .i64 a0_2, .string a0_3, .int .i64 a0_4, .int .i64 a0_5, .int .i64 a0_6, .int .i64 a0_7, .string a0_8, .int .i64 a0_9, .slice A0_10 l0_10.length c0_10, .slice A0_11 l0_11.length c0_11, .bool a0_12, .string a0_13] 47 (0, 0)) (by (with_reducible repeat (first | refine zaj ?_ _ | refine zam ?_ | refine zak ?_ _)); exact BK121.out) hb); have n2_ := zab.mk (zal (by repeat with_reducible first | exact HB.out | apply zac | apply zaa | apply zad | refine zag ?_ GE121.out) hb); clear BK121; clear HB; have HO127 := n0_; have BK121 := n1_; have HB := n2_; clear n0_ n1_ n2_; (try clear hb); (try clear hb2); (try clear hk); (try clear hi); (try clear ho0); obtain ⟨d40_0, d40_1, d40_2, d40_3, d40_4, d40_5, d40_6, d40_7, d40_8, d40_9, d40_10, d40_11, d40_12, d40_13⟩ := cq14 BK121.out; obtain ⟨e40_0, e40_1, e40_2, e40_3, e40_4, e40_5, e40_6, e40_7, e40_8, e40_9, e40_10, e40_11, e40_12, e40_13⟩ := fq14 BK121.out) | (go_at_call 40; (with_reducible refine (zas.calls kj1 1 a0_6 a0_7 a0_8 false _ ?side0 A19.out).mono ?_); (case side0 => exact za7 HG.out (by repeat with_reducible first | exact HB.out | apply zac | apply zaa | apply zad | refine zag ?_ GE121.out)); rintro e w41 ⟨rfl, hb⟩; have n0_ := zab.mk (Kd.zbv (by (with_reducible repeat (first | apply Kd.R_alloc | apply Kd.zbs | apply Kd.R_drew)); exact HO127.out) hb); have n1_ := zab.mk (zaw (g := gb121) (o := .cells #[.int .i64 a0_0, .int .i64 a0_1, .int .i64 a0_2, .string a0_3, .int .i64 a0_4, .int .i64 a0_5, .int .i64 a0_6, .int .i64 a0_7, .string a0_8, .int .i64 a0_9, .slice A0_10 l0_10.length c0_10, .slice A0_11 l0_11.length c0_11, .bool a0_12, .string a0_13] 47 (0, 0)) (by (with_reducible repeat (first | refine zaj ?_ _ | refine zam ?_ | refine zak ?_ _)); exact BK121.out) hb); have n2_ := zab.mk (zal (by repeat with_reducible first | exact HB.out | apply zac | apply zaa | apply zad | refine zag ?_ GE121.out) hb); clear HO127; clear BK121; clear HB; have HO127 := n0_; have BK121 := n1_; have HB := n2_; clear n0_ n1_ n2_; (try clear hb); (try clear hb2); (try clear hk); (try clear hi)))
       go_ret
       exact ⟨by first | rfl | (simp [zao, zan] <;> rfl) | (simp [*, zao, zan] <;> rfl), by repeat with_reducible first | exact HB.out | apply zac | apply zaa | apply zad | refine zag ?_ GE121.out⟩
     ·replace c18 := Bool.eq_false_iff.mpr c18
      subst c18
      have H1 : (some false) = some r := by rw [if_neg (show ¬ (false = true) by decide)] at H; exact H
      clear H
      have H := H1
      clear H1
      obtain rfl := Option.some.inj H
      obtain ⟨d42_0, d42_1, d42_2, d42_3, d42_4, d42_5, d42_6, d42_7, d42_8, d42_9, d42_10, d42_11, d42_12, d42_13⟩ := cq14 BK121.out
      obtain ⟨e42_0, e42_1, e42_2, e42_3, e42_4, e42_5, e42_6, e42_7, e42_8, e42_9, e42_10, e42_11, e42_12, e42_13⟩ := fq14 BK121.out
      go_wp2_with (first | ((with_reducible refine za6 (f := 42) rfl ?_); refine zbo (some 29) rfl rfl Tryd.func42 (by kernel_rfl) rfl #[.int .i64 a0_5, .int .i64 a0_9] rfl (by (try simp only [List.map_toArray, List.map_cons, List.map_nil]); first | done | rfl | (simp only [List.length_drop, List.length_take]; rfl)) ?_; (with_reducible refine (zbc.calls kj1 a0_5 a0_9 t124 false _ A17.out).mono ?_); rintro e w43 ⟨v126, rfl, ho0, hb⟩; refine ⟨_, rfl, ?_⟩; have n0_ := zab.mk (Kd.zcd ho0 (zaq (by repeat with_reducible first | exact HB.out | apply zac | apply zaa | apply zad | refine zag ?_ GE121.out))); have n1_ := zab.mk (zaw (g := gb121) (o := .cells #[.int .i64 a0_0, .int .i64 a0_1, .int .i64 a0_2, .string a0_3, .int .i64 a0_4, .int .i64 a0_5, .int .i64 a0_6, .int .i64 a0_7, .string a0_8, .int .i64 a0_9, .slice A0_10 l0_10.length c0_10, .slice A0_11 l0_11.length c0_11, .bool a0_12, .string a0_13] 47 (0, 0)) (by (with_reducible repeat (first | refine zaj ?_ _ | refine zam ?_ | refine zak ?_ _)); exact BK121.out) hb); have n2_ := zab.mk (zal (by repeat with_reducible first | exact HB.out | apply zac | apply zaa | apply zad | refine zag ?_ GE121.out) hb); clear BK121; clear HB; have HO127 := n0_; have BK121 := n1_; have HB := n2_; clear n0_ n1_ n2_; (try clear hb); (try clear hb2); (try clear hk); (try clear hi); (try clear ho0)))
      go_ret
      exact ⟨by first | rfl | (simp [zao, zan] <;> rfl) | (simp [*, zao, zan] <;> rfl), by repeat with_reducible first | exact HB.out | apply zac | apply zaa | apply zad | refine zag ?_ GE121.out⟩
    ·rw [if_neg c16] at H
     have c16b0 : (a0_4 == 1) = false := beq_eq_false_iff_ne.mpr c16
     have c16b1 : (a0_4 != 1) = true := bne_iff_ne.mpr c16
     have HC44 := zab.mk H
     clear H
     obtain ⟨d45_0, d45_1, d45_2, d45_3, d45_4, d45_5, d45_6, d45_7, d45_8, d45_9, d45_10, d45_11, d45_12, d45_13⟩ := cq14 BK121.out
     obtain ⟨e45_0, e45_1, e45_2, e45_3, e45_4, e45_5, e45_6, e45_7, e45_8, e45_9, e45_10, e45_11, e45_12, e45_13⟩ := fq14 BK121.out
     go_upto_region 6 with (fail)
     go_cut [69] (fun v69 wc => ∃ (kq : Nat) (x69_43 : Bool), v69 = .bool x69_43 ∧ zab (zar.j1 kq x69_43 a0_0 a0_1 a0_2 a0_3 a0_4 a0_5 a0_6 a0_7 a0_8 a0_9 l0_10 l0_11 a0_12 a0_13 = some r) ∧ zab (kq ≤ kj1) ∧ zab (wc.heap[gb121]? = some (.cells #[.int .i64 a0_0, .int .i64 a0_1, .int .i64 a0_2, .string a0_3, .int .i64 a0_4, .int .i64 a0_5, .int .i64 a0_6, .int .i64 a0_7, .string a0_8, .int .i64 a0_9, (.slice A0_10 l0_10.length c0_10), (.slice A0_11 l0_11.length c0_11), .bool a0_12, .string a0_13] 47 (0, 0))) ∧ zab (Below w.heap.size w wc))
     case first =>
      have H := HC44.out
      clear HC44
      by_cases c46 : a0_5 = 0
      ·rw [if_pos c46] at H
       have c46b0 : (a0_5 == 0) = true := beq_iff_eq.mpr c46
       have c46b1 : (a0_5 != 0) = false := bne_eq_false_iff_eq.mpr c46
       clear c46
       (first | rw [c46b0] | (simp only [i64_w]; rw [c46b0]) | skip)
       by_cases c47 : a0_9 = 0
       ·rw [if_pos c47] at H
        have c47b0 : (a0_9 == 0) = true := beq_iff_eq.mpr c47
        have c47b1 : (a0_9 != 0) = false := bne_eq_false_iff_eq.mpr c47
        clear c47
        by_cases c48 : (!(a0_6 == 0) || (!(a0_7 == 0) || (!(a0_8.toList == ([] : List UInt8))))) = true
        ·rw [if_pos c48] at H
         obtain ⟨bt, hbt⟩ : ∃ bt : Bool, (a0_6 == 0 && (a0_7 == 0 && a0_8.toList.isEmpty)) = bt := ⟨_, rfl⟩
         have hbv : bt = false := by rw [← hbt]; revert c48; cases (a0_6 == 0) <;> cases (a0_7 == 0) <;> cases a0_8.toList <;> simp
         clear c48
         have H' := zab.mk H
         clear H
         obtain ⟨d49_0, d49_1, d49_2, d49_3, d49_4, d49_5, d49_6, d49_7, d49_8, d49_9, d49_10, d49_11, d49_12, d49_13⟩ := cq14 BK121.out
         obtain ⟨e49_0, e49_1, e49_2, e49_3, e49_4, e49_5, e49_6, e49_7, e49_8, e49_9, e49_10, e49_11, e49_12, e49_13⟩ := fq14 BK121.out
         go_wp2
         go_meet
         case rel => exact ⟨_, (true), (by first | rfl | (simp; done) | (simp [*]; done)), H', ⟨by have := HJ1.out; first | omega | exact Nat.le_refl _⟩, ⟨by (with_reducible repeat (first | refine zaj ?_ _ | refine zam ?_ | refine zak ?_ _)); exact BK121.out⟩, ⟨by repeat with_reducible first | exact HB.out | apply zac | apply zaa | apply zad | refine zag ?_ GE121.out⟩⟩
        ·rw [if_neg c48] at H
         obtain ⟨bt, hbt⟩ : ∃ bt : Bool, (a0_6 == 0 && (a0_7 == 0 && a0_8.toList.isEmpty)) = bt := ⟨_, rfl⟩
         have hbv : bt = true := by rw [← hbt]; revert c48; cases (a0_6 == 0) <;> cases (a0_7 == 0) <;> cases a0_8.toList <;> simp
         clear c48
         have H' := zab.mk H
         clear H
         obtain ⟨d50_0, d50_1, d50_2, d50_3, d50_4, d50_5, d50_6, d50_7, d50_8, d50_9, d50_10, d50_11, d50_12, d50_13⟩ := cq14 BK121.out
         obtain ⟨e50_0, e50_1, e50_2, e50_3, e50_4, e50_5, e50_6, e50_7, e50_8, e50_9, e50_10, e50_11, e50_12, e50_13⟩ := fq14 BK121.out
         go_wp2
         go_meet
         case rel => exact ⟨_, (decide ((l0_10.length : Int) > 0)), (by first | rfl | (simp; done) | (simp [*]; done)), H', ⟨by have := HJ1.out; first | omega | exact Nat.le_refl _⟩, ⟨by (with_reducible repeat (first | refine zaj ?_ _ | refine zam ?_ | refine zak ?_ _)); exact BK121.out⟩, ⟨by repeat with_reducible first | exact HB.out | apply zac | apply zaa | apply zad | refine zag ?_ GE121.out⟩⟩
       ·rw [if_neg c47] at H
        have c47b0 : (a0_9 == 0) = false := beq_eq_false_iff_ne.mpr c47
        have c47b1 : (a0_9 != 0) = true := bne_iff_ne.mpr c47
        have H' := zab.mk H
        clear H
        obtain ⟨d51_0, d51_1, d51_2, d51_3, d51_4, d51_5, d51_6, d51_7, d51_8, d51_9, d51_10, d51_11, d51_12, d51_13⟩ := cq14 BK121.out
        obtain ⟨e51_0, e51_1, e51_2, e51_3, e51_4, e51_5, e51_6, e51_7, e51_8, e51_9, e51_10, e51_11, e51_12, e51_13⟩ := fq14 BK121.out
        go_wp2
        go_meet
        case rel => exact ⟨_, (true), (by first | rfl | (simp; done) | (simp [*]; done)), H', ⟨by have := HJ1.out; first | omega | exact Nat.le_refl _⟩, ⟨by (with_reducible repeat (first | refine zaj ?_ _ | refine zam ?_ | refine zak ?_ _)); exact BK121.out⟩, ⟨by repeat with_reducible first | exact HB.out | apply zac | apply zaa | apply zad | refine zag ?_ GE121.out⟩⟩
      ·rw [if_neg c46] at H
       have c46b0 : (a0_5 == 0) = false := beq_eq_false_iff_ne.mpr c46
       have c46b1 : (a0_5 != 0) = true := bne_iff_ne.mpr c46
       (first | rw [c46b0] | (simp only [i64_w]; rw [c46b0]) | skip)
       have H' := zab.mk H
       clear H
       obtain ⟨d52_0, d52_1, d52_2, d52_3, d52_4, d52_5, d52_6, d52_7, d52_8, d52_9, d52_10, d52_11, d52_12, d52_13⟩ := cq14 BK121.out
       obtain ⟨e52_0, e52_1, e52_2, e52_3, e52_4, e52_5, e52_6, e52_7, e52_8, e52_9, e52_10, e52_11, e52_12, e52_13⟩ := fq14 BK121.out
       go_wp2
       go_meet
       case rel => exact ⟨_, (true), (by first | rfl | (simp; done) | (simp [*]; done)), H', ⟨by have := HJ1.out; first | omega | exact Nat.le_refl _⟩, ⟨by (with_reducible repeat (first | refine zaj ?_ _ | refine zam ?_ | refine zak ?_ _)); exact BK121.out⟩, ⟨by repeat with_reducible first | exact HB.out | apply zac | apply zaa | apply zad | refine zag ?_ GE121.out⟩⟩
     case rest =>
      clear HC44
      try clear c1
      try clear c2
      try clear p2 p2
      try clear c3
      try clear c4
      try clear c4b0
      try clear c7
      try clear c15
      try clear c16
      try clear c16b0
      try clear c16b1
      try clear c18
      try clear c20
      try clear c22
      try clear c42 d42_0 d42_1 d42_10 d42_11 d42_12 d42_13 d42_2 d42_3 d42_4 d42_5 d42_6 d42_7 d42_8 d42_9
      try clear c46
      try clear c46b0
      try clear c46b1
      try clear c47
      try clear c47b0
      try clear c47b1
      try clear c48
      try clear c48b0
      try clear d11_0 d11_1 d11_10 d11_11 d11_12 d11_13 d11_2 d11_3 d11_4 d11_5 d11_6 d11_7 d11_8 d11_9
      try clear d13_0 d13_1 d13_10 d13_11 d13_12 d13_13 d13_2 d13_3 d13_4 d13_5 d13_6 d13_7 d13_8 d13_9
      try clear d23_0 d23_1 d23_10 d23_11 d23_12 d23_13 d23_2 d23_3 d23_4 d23_5 d23_6 d23_7 d23_8 d23_9
      try clear d25_0 d25_1 d25_10 d25_11 d25_12 d25_13 d25_2 d25_3 d25_4 d25_5 d25_6 d25_7 d25_8 d25_9
      try clear d27_0 d27_1 d27_10 d27_11 d27_12 d27_13 d27_2 d27_3 d27_4 d27_5 d27_6 d27_7 d27_8 d27_9
      try clear d30_0 d30_1 d30_10 d30_11 d30_12 d30_13 d30_2 d30_3 d30_4 d30_5 d30_6 d30_7 d30_8 d30_9
      try clear d31_0 d31_1 d31_10 d31_11 d31_12 d31_13 d31_2 d31_3 d31_4 d31_5 d31_6 d31_7 d31_8 d31_9
      try clear d33_0 d33_1 d33_10 d33_11 d33_12 d33_13 d33_2 d33_3 d33_4 d33_5 d33_6 d33_7 d33_8 d33_9
      try clear d35_0 d35_1 d35_10 d35_11 d35_12 d35_13 d35_2 d35_3 d35_4 d35_5 d35_6 d35_7 d35_8 d35_9
      try clear d38_0 d38_1 d38_10 d38_11 d38_12 d38_13 d38_2 d38_3 d38_4 d38_5 d38_6 d38_7 d38_8 d38_9
      try clear d40_0 d40_1 d40_10 d40_11 d40_12 d40_13 d40_2 d40_3 d40_4 d40_5 d40_6 d40_7 d40_8 d40_9
      try clear d45_0 d45_1 d45_10 d45_11 d45_12 d45_13 d45_2 d45_3 d45_4 d45_5 d45_6 d45_7 d45_8 d45_9
      try clear d49_0 d49_1 d49_10 d49_11 d49_12 d49_13 d49_2 d49_3 d49_4 d49_5 d49_6 d49_7 d49_8 d49_9
      try clear d50_0 d50_1 d50_10 d50_11 d50_12 d50_13 d50_2 d50_3 d50_4 d50_5 d50_6 d50_7 d50_8 d50_9
      try clear d51_0 d51_1 d51_10 d51_11 d51_12 d51_13 d51_2 d51_3 d51_4 d51_5 d51_6 d51_7 d51_8 d51_9
      try clear d52_0 d52_1 d52_10 d52_11 d52_12 d52_13 d52_2 d52_3 d52_4 d52_5 d52_6 d52_7 d52_8 d52_9
      try clear d5_0 d5_1 d5_10 d5_11 d5_12 d5_13 d5_2 d5_3 d5_4 d5_5 d5_6 d5_7 d5_8 d5_9
      try clear d9_0 d9_1 d9_10 d9_11 d9_12 d9_13 d9_2 d9_3 d9_4 d9_5 d9_6 d9_7 d9_8 d9_9
      try clear e11_0 e11_1 e11_10 e11_11 e11_12 e11_13 e11_2 e11_3 e11_4 e11_5 e11_6 e11_7 e11_8 e11_9
      try clear e13_0 e13_1 e13_10 e13_11 e13_12 e13_13 e13_2 e13_3 e13_4 e13_5 e13_6 e13_7 e13_8 e13_9
      try clear e23_0 e23_1 e23_10 e23_11 e23_12 e23_13 e23_2 e23_3 e23_4 e23_5 e23_6 e23_7 e23_8 e23_9
      try clear e25_0 e25_1 e25_10 e25_11 e25_12 e25_13 e25_2 e25_3 e25_4 e25_5 e25_6 e25_7 e25_8 e25_9
      try clear e27_0 e27_1 e27_10 e27_11 e27_12 e27_13 e27_2 e27_3 e27_4 e27_5 e27_6 e27_7 e27_8 e27_9
      try clear e30_0 e30_1 e30_10 e30_11 e30_12 e30_13 e30_2 e30_3 e30_4 e30_5 e30_6 e30_7 e30_8 e30_9
      try clear e31_0 e31_1 e31_10 e31_11 e31_12 e31_13 e31_2 e31_3 e31_4 e31_5 e31_6 e31_7 e31_8 e31_9
      try clear e33_0 e33_1 e33_10 e33_11 e33_12 e33_13 e33_2 e33_3 e33_4 e33_5 e33_6 e33_7 e33_8 e33_9
      try clear e35_0 e35_1 e35_10 e35_11 e35_12 e35_13 e35_2 e35_3 e35_4 e35_5 e35_6 e35_7 e35_8 e35_9
      try clear e38_0 e38_1 e38_10 e38_11 e38_12 e38_13 e38_2 e38_3 e38_4 e38_5 e38_6 e38_7 e38_8 e38_9
      try clear e40_0 e40_1 e40_10 e40_11 e40_12 e40_13 e40_2 e40_3 e40_4 e40_5 e40_6 e40_7 e40_8 e40_9
      try clear e42_0 e42_1 e42_10 e42_11 e42_12 e42_13 e42_2 e42_3 e42_4 e42_5 e42_6 e42_7 e42_8 e42_9
      try clear e45_0 e45_1 e45_10 e45_11 e45_12 e45_13 e45_2 e45_3 e45_4 e45_5 e45_6 e45_7 e45_8 e45_9
      try clear e49_0 e49_1 e49_10 e49_11 e49_12 e49_13 e49_2 e49_3 e49_4 e49_5 e49_6 e49_7 e49_8 e49_9
      try clear e50_0 e50_1 e50_10 e50_11 e50_12 e50_13 e50_2 e50_3 e50_4 e50_5 e50_6 e50_7 e50_8 e50_9
      try clear e51_0 e51_1 e51_10 e51_11 e51_12 e51_13 e51_2 e51_3 e51_4 e51_5 e51_6 e51_7 e51_8 e51_9
      try clear e52_0 e52_1 e52_10 e52_11 e52_12 e52_13 e52_2 e52_3 e52_4 e52_5 e52_6 e52_7 e52_8 e52_9
      try clear e5_0 e5_1 e5_10 e5_11 e5_12 e5_13 e5_2 e5_3 e5_4 e5_5 e5_6 e5_7 e5_8 e5_9
      try clear e9_0 e9_1 e9_10 e9_11 e9_12 e9_13 e9_2 e9_3 e9_4 e9_5 e9_6 e9_7 e9_8 e9_9
      obtain ⟨kq, x69_43, rfl, HA, HJ43, BK121, HB⟩ := hcut
      cases kq with
      | zero => exact absurd HA.out (by simp [zar.j1])
      | succ kj43 =>
       have H := HA.out
       clear HA
       simp only [zar.j1] at H
       by_cases c53 : x69_43 = true
       ·subst c53
        have H1 : (some false) = some r := by rw [if_pos rfl] at H; exact H
        clear H
        have H := H1
        clear H1
        obtain rfl := Option.some.inj H
        go_wp2
        go_ret
        exact ⟨by first | rfl | (simp [zao, zan] <;> rfl) | (simp [*, zao, zan] <;> rfl), by repeat with_reducible first | exact HB.out | apply zac | apply zaa | apply zad | refine zag ?_ GE121.out⟩
       ·replace c53 := Bool.eq_false_iff.mpr c53
        subst c53
        have H1 : (zar.l0 kj43 l0_11 (l0_11.length : Int) 0 a0_0 a0_1 a0_2 a0_3 a0_4 a0_5 a0_6 a0_7 a0_8 a0_9 l0_10 l0_11 a0_12 a0_13) = some r := by rw [if_neg (show ¬ (false = true) by decide)] at H; exact H
        clear H
        have H := H1
        clear H1
        have H' := zab.mk H
        clear H
        obtain ⟨d54_0, d54_1, d54_2, d54_3, d54_4, d54_5, d54_6, d54_7, d54_8, d54_9, d54_10, d54_11, d54_12, d54_13⟩ := cq14 BK121.out
        obtain ⟨e54_0, e54_1, e54_2, e54_3, e54_4, e54_5, e54_6, e54_7, e54_8, e54_9, e54_10, e54_11, e54_12, e54_13⟩ := fq14 BK121.out
        go_wp2
        go_loopg [73] kj43 (fun kq v73 w' => ∃ (x73_3 : Int), v73 = .int .i64 x73_3 ∧ zab (zar.l0 kq l0_11 (l0_11.length : Int) x73_3 a0_0 a0_1 a0_2 a0_3 a0_4 a0_5 a0_6 a0_7 a0_8 a0_9 l0_10 l0_11 a0_12 a0_13 = some r) ∧ zab (kq ≤ kj43) ∧ zab (w'.heap[gb121]? = some (.cells #[.int .i64 a0_0, .int .i64 a0_1, .int .i64 a0_2, .string a0_3, .int .i64 a0_4, .int .i64 a0_5, .int .i64 a0_6, .int .i64 a0_7, .string a0_8, .int .i64 a0_9, (.slice A0_10 l0_10.length c0_10), (.slice A0_11 l0_11.length c0_11), .bool a0_12, .string a0_13] 47 (0, 0))) ∧ zab (Below w.heap.size w w'))
        case atStart => exact ⟨(0), (by first | rfl | (simp; done) | (simp [*]; done)), H', ⟨Nat.le_refl _⟩, ⟨by (with_reducible repeat (first | refine zaj ?_ _ | refine zam ?_ | refine zak ?_ _)); exact BK121.out⟩, ⟨by repeat with_reducible first | exact HB.out | apply zac | apply zaa | apply zad | refine zag ?_ GE121.out⟩⟩
        case round =>
         clear H'
         try clear p2 p2
         try clear c4
         try clear c5 d5_0 d5_1 d5_10 d5_11 d5_12 d5_13 d5_2 d5_3 d5_4 d5_5 d5_6 d5_7 d5_8 d5_9
         try clear c42 d42_0 d42_1 d42_10 d42_11 d42_12 d42_13 d42_2 d42_3 d42_4 d42_5 d42_6 d42_7 d42_8 d42_9
         try clear c46
         try clear c46b0
         try clear c46b1
         try clear c47
         try clear c47b0
         try clear c47b1
         try clear c48
         try clear c48b0
         try clear c53
         try clear d11_0 d11_1 d11_10 d11_11 d11_12 d11_13 d11_2 d11_3 d11_4 d11_5 d11_6 d11_7 d11_8 d11_9
         try clear d13_0 d13_1 d13_10 d13_11 d13_12 d13_13 d13_2 d13_3 d13_4 d13_5 d13_6 d13_7 d13_8 d13_9
         try clear d23_0 d23_1 d23_10 d23_11 d23_12 d23_13 d23_2 d23_3 d23_4 d23_5 d23_6 d23_7 d23_8 d23_9
         try clear d25_0 d25_1 d25_10 d25_11 d25_12 d25_13 d25_2 d25_3 d25_4 d25_5 d25_6 d25_7 d25_8 d25_9
         try clear d27_0 d27_1 d27_10 d27_11 d27_12 d27_13 d27_2 d27_3 d27_4 d27_5 d27_6 d27_7 d27_8 d27_9
         try clear d30_0 d30_1 d30_10 d30_11 d30_12 d30_13 d30_2 d30_3 d30_4 d30_5 d30_6 d30_7 d30_8 d30_9
         try clear d31_0 d31_1 d31_10 d31_11 d31_12 d31_13 d31_2 d31_3 d31_4 d31_5 d31_6 d31_7 d31_8 d31_9
         try clear d33_0 d33_1 d33_10 d33_11 d33_12 d33_13 d33_2 d33_3 d33_4 d33_5 d33_6 d33_7 d33_8 d33_9
         try clear d35_0 d35_1 d35_10 d35_11 d35_12 d35_13 d35_2 d35_3 d35_4 d35_5 d35_6 d35_7 d35_8 d35_9
         try clear d38_0 d38_1 d38_10 d38_11 d38_12 d38_13 d38_2 d38_3 d38_4 d38_5 d38_6 d38_7 d38_8 d38_9
         try clear d40_0 d40_1 d40_10 d40_11 d40_12 d40_13 d40_2 d40_3 d40_4 d40_5 d40_6 d40_7 d40_8 d40_9
         try clear d45_0 d45_1 d45_10 d45_11 d45_12 d45_13 d45_2 d45_3 d45_4 d45_5 d45_6 d45_7 d45_8 d45_9
         try clear d49_0 d49_1 d49_10 d49_11 d49_12 d49_13 d49_2 d49_3 d49_4 d49_5 d49_6 d49_7 d49_8 d49_9
         try clear d50_0 d50_1 d50_10 d50_11 d50_12 d50_13 d50_2 d50_3 d50_4 d50_5 d50_6 d50_7 d50_8 d50_9
         try clear d51_0 d51_1 d51_10 d51_11 d51_12 d51_13 d51_2 d51_3 d51_4 d51_5 d51_6 d51_7 d51_8 d51_9
         try clear d52_0 d52_1 d52_10 d52_11 d52_12 d52_13 d52_2 d52_3 d52_4 d52_5 d52_6 d52_7 d52_8 d52_9
         try clear d54_0 d54_1 d54_10 d54_11 d54_12 d54_13 d54_2 d54_3 d54_4 d54_5 d54_6 d54_7 d54_8 d54_9
         try clear d9_0 d9_1 d9_10 d9_11 d9_12 d9_13 d9_2 d9_3 d9_4 d9_5 d9_6 d9_7 d9_8 d9_9
         try clear e11_0 e11_1 e11_10 e11_11 e11_12 e11_13 e11_2 e11_3 e11_4 e11_5 e11_6 e11_7 e11_8 e11_9
         try clear e13_0 e13_1 e13_10 e13_11 e13_12 e13_13 e13_2 e13_3 e13_4 e13_5 e13_6 e13_7 e13_8 e13_9
         try clear e23_0 e23_1 e23_10 e23_11 e23_12 e23_13 e23_2 e23_3 e23_4 e23_5 e23_6 e23_7 e23_8 e23_9
         try clear e25_0 e25_1 e25_10 e25_11 e25_12 e25_13 e25_2 e25_3 e25_4 e25_5 e25_6 e25_7 e25_8 e25_9
         try clear e27_0 e27_1 e27_10 e27_11 e27_12 e27_13 e27_2 e27_3 e27_4 e27_5 e27_6 e27_7 e27_8 e27_9
         try clear e30_0 e30_1 e30_10 e30_11 e30_12 e30_13 e30_2 e30_3 e30_4 e30_5 e30_6 e30_7 e30_8 e30_9
         try clear e31_0 e31_1 e31_10 e31_11 e31_12 e31_13 e31_2 e31_3 e31_4 e31_5 e31_6 e31_7 e31_8 e31_9
         try clear e33_0 e33_1 e33_10 e33_11 e33_12 e33_13 e33_2 e33_3 e33_4 e33_5 e33_6 e33_7 e33_8 e33_9
         try clear e35_0 e35_1 e35_10 e35_11 e35_12 e35_13 e35_2 e35_3 e35_4 e35_5 e35_6 e35_7 e35_8 e35_9
         try clear e38_0 e38_1 e38_10 e38_11 e38_12 e38_13 e38_2 e38_3 e38_4 e38_5 e38_6 e38_7 e38_8 e38_9
         try clear e40_0 e40_1 e40_10 e40_11 e40_12 e40_13 e40_2 e40_3 e40_4 e40_5 e40_6 e40_7 e40_8 e40_9
         try clear e42_0 e42_1 e42_10 e42_11 e42_12 e42_13 e42_2 e42_3 e42_4 e42_5 e42_6 e42_7 e42_8 e42_9
         try clear e45_0 e45_1 e45_10 e45_11 e45_12 e45_13 e45_2 e45_3 e45_4 e45_5 e45_6 e45_7 e45_8 e45_9
         try clear e49_0 e49_1 e49_10 e49_11 e49_12 e49_13 e49_2 e49_3 e49_4 e49_5 e49_6 e49_7 e49_8 e49_9
         try clear e50_0 e50_1 e50_10 e50_11 e50_12 e50_13 e50_2 e50_3 e50_4 e50_5 e50_6 e50_7 e50_8 e50_9
         try clear e51_0 e51_1 e51_10 e51_11 e51_12 e51_13 e51_2 e51_3 e51_4 e51_5 e51_6 e51_7 e51_8 e51_9
         try clear e52_0 e52_1 e52_10 e52_11 e52_12 e52_13 e52_2 e52_3 e52_4 e52_5 e52_6 e52_7 e52_8 e52_9
         try clear e54_0 e54_1 e54_10 e54_11 e54_12 e54_13 e54_2 e54_3 e54_4 e54_5 e54_6 e54_7 e54_8 e54_9
         try clear e5_0 e5_1 e5_10 e5_11 e5_12 e5_13 e5_2 e5_3 e5_4 e5_5 e5_6 e5_7 e5_8 e5_9
         try clear e9_0 e9_1 e9_10 e9_11 e9_12 e9_13 e9_2 e9_3 e9_4 e9_5 e9_6 e9_7 e9_8 e9_9
         obtain ⟨x73_3, rfl, HA, HK3, BK121, HB⟩ := hrel
         cases gk with
         | zero => exact absurd HA.out (by simp [zar.l0])
         | succ k3 =>
          have H := HA.out
          clear HA
          simp only [zar.l0] at H
          by_cases c55 : x73_3 < (l0_11.length : Int)
          ·rw [if_pos c55] at H
           have c55b0 : decide (x73_3 < (l0_11.length : Int)) = true := decide_eq_true c55
           clear c55
           by_cases c56 : 0 ≤ x73_3
           ·rw [if_pos c56] at H
            have c56b0 : decide (0 ≤ x73_3) = true := decide_eq_true c56
            clear c56
            by_cases c57 : x73_3 < (l0_11.length : Int)
            ·rw [if_pos c57] at H
             have c57b0 : decide (x73_3 < (l0_11.length : Int)) = true := decide_eq_true c57
             clear c57
             replace H := Option.bind_eq_some_iff.mp H
             obtain ⟨t132, A580, H⟩ := H
             replace H : (if t132 = true then (zar.l0 k3 l0_11 (l0_11.length : Int) (wrap64 (x73_3 + 1)) a0_0 a0_1 a0_2 a0_3 a0_4 a0_5 a0_6 a0_7 a0_8 a0_9 l0_10 l0_11 a0_12 a0_13) else (some false)) = some r := H
             have A58 := zab.mk A580
             clear A580
             by_cases c59 : t132 = true
             ·subst c59
              have H1 : (zar.l0 k3 l0_11 (l0_11.length : Int) (wrap64 (x73_3 + 1)) a0_0 a0_1 a0_2 a0_3 a0_4 a0_5 a0_6 a0_7 a0_8 a0_9 l0_10 l0_11 a0_12 a0_13) = some r := by rw [if_pos rfl] at H; exact H
              clear H
              have H := H1
              clear H1
              have H' := zab.mk H
              clear H
              have p130 : 0 ≤ (x73_3 : Int) := of_decide_eq_true (by first | (with_reducible assumption) | assumption)
              have q130 : x73_3 < (l0_11.length : Int) := of_decide_eq_true (by first | (with_reducible assumption) | assumption)
              obtain ⟨ad130, e130, hx130_0, hx130_1, hx130_2⟩ := zcb HR0_11.out x73_3 p130 q130
              cases e130
              replace hx130_0 := zaf HB.out hx130_0
              replace hx130_1 := zaf HB.out hx130_1
              replace hx130_2 := zaf HB.out hx130_2
              replace p130 := eq_true p130
              replace q130 := eq_true q130
              go_wp2_with (first | ((with_reducible refine za2 (N := 6) rfl ?_); (try (refine gate_guard (by rfl) ?_; dsimp only)); refine zay ?hg (N := 6) ?hd (cs := #[.int .i64 0, .int .i64 0, .string (⟨#[]⟩ : ByteArray)]) (t := 38) ?hr ?_; (case hd => rfl); (case hg => rfl); (case hr => first | (go_simp; done) | (go_simp; rfl)); intro gb131 hg w60 hbox hb; have n0_ := zab.mk (zaw (g := gb121) (o := .cells #[.int .i64 a0_0, .int .i64 a0_1, .int .i64 a0_2, .string a0_3, .int .i64 a0_4, .int .i64 a0_5, .int .i64 a0_6, .int .i64 a0_7, .string a0_8, .int .i64 a0_9, .slice A0_10 l0_10.length c0_10, .slice (some ad130) l0_11.length c0_11, .bool a0_12, .string a0_13] 47 (0, 0)) (by (with_reducible repeat (first | refine zaj ?_ _ | refine zam ?_ | refine zak ?_ _)); exact BK121.out) hb); have n1_ := zab.mk (zal (by repeat with_reducible first | exact HB.out | apply zac | apply zaa | apply zad | refine zag ?_ GE121.out) hb); have n2_ := zab.mk (hbox); have n3_ := zab.mk ((by rw [hg]; exact (zaq (by repeat with_reducible first | exact HB.out | apply zac | apply zaa | apply zad | refine zag ?_ GE121.out)) : w.heap.size ≤ gb131)); have n4_ := zab.mk ((by rw [hg]; exact (zaq (by repeat with_reducible first | exact HB.out | apply zac | apply zaa | apply zad | refine zag ?_ GE121.out)) : w.heap.size ≤ gb131)); have n5_ := zab.mk ((by rw [hg]; exact Nat.ne_of_lt (zbp (g := gb121) (o := .cells #[.int .i64 a0_0, .int .i64 a0_1, .int .i64 a0_2, .string a0_3, .int .i64 a0_4, .int .i64 a0_5, .int .i64 a0_6, .int .i64 a0_7, .string a0_8, .int .i64 a0_9, .slice A0_10 l0_10.length c0_10, .slice (some ad130) l0_11.length c0_11, .bool a0_12, .string a0_13] 47 (0, 0)) (by (with_reducible repeat (first | refine zaj ?_ _ | refine zam ?_ | refine zak ?_ _)); exact BK121.out)) : gb121 ≠ gb131)); have n6_ := zab.mk ((by rw [hg]; exact Nat.ne_of_gt (zbp (g := gb121) (o := .cells #[.int .i64 a0_0, .int .i64 a0_1, .int .i64 a0_2, .string a0_3, .int .i64 a0_4, .int .i64 a0_5, .int .i64 a0_6, .int .i64 a0_7, .string a0_8, .int .i64 a0_9, .slice A0_10 l0_10.length c0_10, .slice (some ad130) l0_11.length c0_11, .bool a0_12, .string a0_13] 47 (0, 0)) (by (with_reducible repeat (first | refine zaj ?_ _ | refine zam ?_ | refine zak ?_ _)); exact BK121.out)) : gb131 ≠ gb121)); clear BK121; clear HB; have BK121 := n0_; have HB := n1_; have BK131 := n2_; have GW131 := n3_; have GE131 := n4_; have NB121_131 := n5_; have NB131_121 := n6_; clear n0_ n1_ n2_ n3_ n4_ n5_ n6_; clear hb hbox hg; have hnb61 := NB131_121.out; have hnc61 := NB121_131.out; obtain ⟨d62_0, d62_1, d62_2⟩ := cq3 BK131.out; obtain ⟨e62_0, e62_1, e62_2⟩ := fq3 BK131.out) | ((with_reducible refine za6 (f := 44) rfl ?_); refine zbo (some 78) rfl rfl Tryd.func44 (by kernel_rfl) rfl #[.agg #[.int .i64 ((zai l0_11 x73_3).f0), .int .i64 ((zai l0_11 x73_3).f1), .string ((zai l0_11 x73_3).f2)]] rfl (by (try simp only [List.map_toArray, List.map_cons, List.map_nil]); first | done | rfl | (simp only [List.length_drop, List.length_take]; rfl)) ?_; (with_reducible refine (zbj.calls k3 ((zai l0_11 x73_3).f0) ((zai l0_11 x73_3).f1) ((zai l0_11 x73_3).f2) true _ ?side0 A58.out).mono ?_); (case side0 => exact za7 HG.out (by repeat with_reducible first | exact HB.out | apply zac | apply zaa | apply zad | refine zag ?_ GE121.out | refine zag ?_ GE131.out)); rintro e w63 ⟨rfl, hb⟩; refine ⟨_, rfl, ?_⟩; have n0_ := zab.mk (zaw (g := gb121) (o := .cells #[.int .i64 a0_0, .int .i64 a0_1, .int .i64 a0_2, .string a0_3, .int .i64 a0_4, .int .i64 a0_5, .int .i64 a0_6, .int .i64 a0_7, .string a0_8, .int .i64 a0_9, .slice A0_10 l0_10.length c0_10, .slice (some ad130) l0_11.length c0_11, .bool a0_12, .string a0_13] 47 (0, 0)) (by (with_reducible repeat (first | refine zaj ?_ _ | refine zam ?_ | refine zak ?_ _)); refine blk_far ?_ NB121_131.out _; (with_reducible repeat (first | refine zaj ?_ _ | refine zam ?_ | refine zak ?_ _)); refine blk_far ?_ NB121_131.out _; (with_reducible repeat (first | refine zaj ?_ _ | refine zam ?_ | refine zak ?_ _)); refine blk_far ?_ NB121_131.out _; (with_reducible repeat (first | refine zaj ?_ _ | refine zam ?_ | refine zak ?_ _)); exact BK121.out) hb); have n1_ := zab.mk (zaw (g := gb131) (o := .cells #[.int .i64 ((zai l0_11 x73_3).f0), .int .i64 ((zai l0_11 x73_3).f1), .string ((zai l0_11 x73_3).f2)] 38 (0, 0)) (by (with_reducible repeat (first | refine zaj ?_ _ | refine zam ?_ | refine zak ?_ _)); refine pq3 (.int .i64 0) (.int .i64 0) (.string (⟨#[]⟩ : ByteArray)) ?_; (with_reducible repeat (first | refine zaj ?_ _ | refine zam ?_ | refine zak ?_ _)); exact BK131.out) hb); have n2_ := zab.mk (zal (by repeat with_reducible first | exact HB.out | apply zac | apply zaa | apply zad | refine zag ?_ GE121.out | refine zag ?_ GE131.out) hb); clear BK121; clear BK131; clear HB; have BK121 := n0_; have BK131 := n1_; have HB := n2_; clear n0_ n1_ n2_; (try clear hb); (try clear hb2); (try clear hk); (try clear hi)))
              go_roundg k3
              case measure => have := HJ1.out; have := HJ43.out; have := HK3.out; omega
              case rel => exact ⟨(wrap64 (x73_3 + 1)), (by first | rfl | (simp; done) | (simp [*]; done)), H', ⟨by have := HJ1.out; have := HJ43.out; have := HK3.out; omega⟩, ⟨by (with_reducible repeat (first | refine zaj ?_ _ | refine zam ?_ | refine zak ?_ _)); exact BK121.out⟩, ⟨by repeat with_reducible first | exact HB.out | apply zac | apply zaa | apply zad | refine zag ?_ GE121.out | refine zag ?_ GE131.out⟩⟩
             ·replace c59 := Bool.eq_false_iff.mpr c59
              subst c59
              have H1 : (some false) = some r := by rw [if_neg (show ¬ (false = true) by decide)] at H; exact H
              clear H
              have H := H1
              clear H1
              obtain rfl := Option.some.inj H
              have p130 : 0 ≤ (x73_3 : Int) := of_decide_eq_true (by first | (with_reducible assumption) | assumption)
              have q130 : x73_3 < (l0_11.length : Int) := of_decide_eq_true (by first | (with_reducible assumption) | assumption)
              obtain ⟨ad130, e130, hx130_0, hx130_1, hx130_2⟩ := zcb HR0_11.out x73_3 p130 q130
              cases e130
              replace hx130_0 := zaf HB.out hx130_0
              replace hx130_1 := zaf HB.out hx130_1
              replace hx130_2 := zaf HB.out hx130_2
              replace p130 := eq_true p130
              replace q130 := eq_true q130
              go_wp2_with (first | ((with_reducible refine za2 (N := 6) rfl ?_); (try (refine gate_guard (by rfl) ?_; dsimp only)); refine zay ?hg (N := 6) ?hd (cs := #[.int .i64 0, .int .i64 0, .string (⟨#[]⟩ : ByteArray)]) (t := 38) ?hr ?_; (case hd => rfl); (case hg => rfl); (case hr => first | (go_simp; done) | (go_simp; rfl)); intro gb131 hg w64 hbox hb; have n0_ := zab.mk (zaw (g := gb121) (o := .cells #[.int .i64 a0_0, .int .i64 a0_1, .int .i64 a0_2, .string a0_3, .int .i64 a0_4, .int .i64 a0_5, .int .i64 a0_6, .int .i64 a0_7, .string a0_8, .int .i64 a0_9, .slice A0_10 l0_10.length c0_10, .slice (some ad130) l0_11.length c0_11, .bool a0_12, .string a0_13] 47 (0, 0)) (by (with_reducible repeat (first | refine zaj ?_ _ | refine zam ?_ | refine zak ?_ _)); exact BK121.out) hb); have n1_ := zab.mk (zal (by repeat with_reducible first | exact HB.out | apply zac | apply zaa | apply zad | refine zag ?_ GE121.out) hb); have n2_ := zab.mk (hbox); have n3_ := zab.mk ((by rw [hg]; exact (zaq (by repeat with_reducible first | exact HB.out | apply zac | apply zaa | apply zad | refine zag ?_ GE121.out)) : w.heap.size ≤ gb131)); have n4_ := zab.mk ((by rw [hg]; exact (zaq (by repeat with_reducible first | exact HB.out | apply zac | apply zaa | apply zad | refine zag ?_ GE121.out)) : w.heap.size ≤ gb131)); have n5_ := zab.mk ((by rw [hg]; exact Nat.ne_of_lt (zbp (g := gb121) (o := .cells #[.int .i64 a0_0, .int .i64 a0_1, .int .i64 a0_2, .string a0_3, .int .i64 a0_4, .int .i64 a0_5, .int .i64 a0_6, .int .i64 a0_7, .string a0_8, .int .i64 a0_9, .slice A0_10 l0_10.length c0_10, .slice (some ad130) l0_11.length c0_11, .bool a0_12, .string a0_13] 47 (0, 0)) (by (with_reducible repeat (first | refine zaj ?_ _ | refine zam ?_ | refine zak ?_ _)); exact BK121.out)) : gb121 ≠ gb131)); have n6_ := zab.mk ((by rw [hg]; exact Nat.ne_of_gt (zbp (g := gb121) (o := .cells #[.int .i64 a0_0, .int .i64 a0_1, .int .i64 a0_2, .string a0_3, .int .i64 a0_4, .int .i64 a0_5, .int .i64 a0_6, .int .i64 a0_7, .string a0_8, .int .i64 a0_9, .slice A0_10 l0_10.length c0_10, .slice (some ad130) l0_11.length c0_11, .bool a0_12, .string a0_13] 47 (0, 0)) (by (with_reducible repeat (first | refine zaj ?_ _ | refine zam ?_ | refine zak ?_ _)); exact BK121.out)) : gb131 ≠ gb121)); clear BK121; clear HB; have BK121 := n0_; have HB := n1_; have BK131 := n2_; have GW131 := n3_; have GE131 := n4_; have NB121_131 := n5_; have NB131_121 := n6_; clear n0_ n1_ n2_ n3_ n4_ n5_ n6_; clear hb hbox hg; have hnb65 := NB131_121.out; have hnc65 := NB121_131.out; obtain ⟨d66_0, d66_1, d66_2⟩ := cq3 BK131.out; obtain ⟨e66_0, e66_1, e66_2⟩ := fq3 BK131.out) | ((with_reducible refine za6 (f := 44) rfl ?_); refine zbo (some 78) rfl rfl Tryd.func44 (by kernel_rfl) rfl #[.agg #[.int .i64 ((zai l0_11 x73_3).f0), .int .i64 ((zai l0_11 x73_3).f1), .string ((zai l0_11 x73_3).f2)]] rfl (by (try simp only [List.map_toArray, List.map_cons, List.map_nil]); first | done | rfl | (simp only [List.length_drop, List.length_take]; rfl)) ?_; (with_reducible refine (zbj.calls k3 ((zai l0_11 x73_3).f0) ((zai l0_11 x73_3).f1) ((zai l0_11 x73_3).f2) false _ ?side0 A58.out).mono ?_); (case side0 => exact za7 HG.out (by repeat with_reducible first | exact HB.out | apply zac | apply zaa | apply zad | refine zag ?_ GE121.out | refine zag ?_ GE131.out)); rintro e w67 ⟨rfl, hb⟩; refine ⟨_, rfl, ?_⟩; have n0_ := zab.mk (zaw (g := gb121) (o := .cells #[.int .i64 a0_0, .int .i64 a0_1, .int .i64 a0_2, .string a0_3, .int .i64 a0_4, .int .i64 a0_5, .int .i64 a0_6, .int .i64 a0_7, .string a0_8, .int .i64 a0_9, .slice A0_10 l0_10.length c0_10, .slice (some ad130) l0_11.length c0_11, .bool a0_12, .string a0_13] 47 (0, 0)) (by (with_reducible repeat (first | refine zaj ?_ _ | refine zam ?_ | refine zak ?_ _)); refine blk_far ?_ NB121_131.out _; (with_reducible repeat (first | refine zaj ?_ _ | refine zam ?_ | refine zak ?_ _)); refine blk_far ?_ NB121_131.out _; (with_reducible repeat (first | refine zaj ?_ _ | refine zam ?_ | refine zak ?_ _)); refine blk_far ?_ NB121_131.out _; (with_reducible repeat (first | refine zaj ?_ _ | refine zam ?_ | refine zak ?_ _)); exact BK121.out) hb); have n1_ := zab.mk (zaw (g := gb131) (o := .cells #[.int .i64 ((zai l0_11 x73_3).f0), .int .i64 ((zai l0_11 x73_3).f1), .string ((zai l0_11 x73_3).f2)] 38 (0, 0)) (by (with_reducible repeat (first | refine zaj ?_ _ | refine zam ?_ | refine zak ?_ _)); refine pq3 (.int .i64 0) (.int .i64 0) (.string (⟨#[]⟩ : ByteArray)) ?_; (with_reducible repeat (first | refine zaj ?_ _ | refine zam ?_ | refine zak ?_ _)); exact BK131.out) hb); have n2_ := zab.mk (zal (by repeat with_reducible first | exact HB.out | apply zac | apply zaa | apply zad | refine zag ?_ GE121.out | refine zag ?_ GE131.out) hb); clear BK121; clear BK131; clear HB; have BK121 := n0_; have BK131 := n1_; have HB := n2_; clear n0_ n1_ n2_; (try clear hb); (try clear hb2); (try clear hk); (try clear hi)))
              go_ret
              exact ⟨by first | rfl | (simp [zao, zan] <;> rfl) | (simp [*, zao, zan] <;> rfl), by repeat with_reducible first | exact HB.out | apply zac | apply zaa | apply zad | refine zag ?_ GE121.out | refine zag ?_ GE131.out⟩
            ·rw [if_neg c57] at H
             exact absurd H (by simp)
           ·rw [if_neg c56] at H
            exact absurd H (by simp)
          ·rw [if_neg c55] at H
           have c55b0 : decide (x73_3 < (l0_11.length : Int)) = false := decide_eq_false c55
           clear c55
           by_cases c68 : a0_4 = 2
           ·rw [if_pos c68] at H
            have c68b0 : (a0_4 == 2) = true := beq_iff_eq.mpr c68
            have c68b1 : (a0_4 != 2) = false := bne_eq_false_iff_eq.mpr c68
            clear c68
            obtain rfl := Option.some.inj H
            obtain ⟨d69_0, d69_1, d69_2, d69_3, d69_4, d69_5, d69_6, d69_7, d69_8, d69_9, d69_10, d69_11, d69_12, d69_13⟩ := cq14 BK121.out
            obtain ⟨e69_0, e69_1, e69_2, e69_3, e69_4, e69_5, e69_6, e69_7, e69_8, e69_9, e69_10, e69_11, e69_12, e69_13⟩ := fq14 BK121.out
            go_wp2
            go_ret
            exact ⟨by first | rfl | (simp [zao, zan] <;> rfl) | (simp [*, zao, zan] <;> rfl), by repeat with_reducible first | exact HB.out | apply zac | apply zaa | apply zad | refine zag ?_ GE121.out⟩
           ·rw [if_neg c68] at H
            have c68b0 : (a0_4 == 2) = false := beq_eq_false_iff_ne.mpr c68
            have c68b1 : (a0_4 != 2) = true := bne_iff_ne.mpr c68
            by_cases c70 : a0_4 = 3
            ·rw [if_pos c70] at H
             have c70b0 : (a0_4 == 3) = true := beq_iff_eq.mpr c70
             have c70b1 : (a0_4 != 3) = false := bne_eq_false_iff_eq.mpr c70
             clear c70
             obtain rfl := Option.some.inj H
             obtain ⟨d71_0, d71_1, d71_2, d71_3, d71_4, d71_5, d71_6, d71_7, d71_8, d71_9, d71_10, d71_11, d71_12, d71_13⟩ := cq14 BK121.out
             obtain ⟨e71_0, e71_1, e71_2, e71_3, e71_4, e71_5, e71_6, e71_7, e71_8, e71_9, e71_10, e71_11, e71_12, e71_13⟩ := fq14 BK121.out
             go_wp2
             go_ret
             exact ⟨by first | rfl | (simp [zao, zan] <;> rfl) | (simp [*, zao, zan] <;> rfl), by repeat with_reducible first | exact HB.out | apply zac | apply zaa | apply zad | refine zag ?_ GE121.out⟩
            ·rw [if_neg c70] at H
             have c70b0 : (a0_4 == 3) = false := beq_eq_false_iff_ne.mpr c70
             have c70b1 : (a0_4 != 3) = true := bne_iff_ne.mpr c70
             by_cases c72 : a0_4 = 4
             ·rw [if_pos c72] at H
              have c72b0 : (a0_4 == 4) = true := beq_iff_eq.mpr c72
              have c72b1 : (a0_4 != 4) = false := bne_eq_false_iff_eq.mpr c72
              clear c72
              obtain rfl := Option.some.inj H
              obtain ⟨d73_0, d73_1, d73_2, d73_3, d73_4, d73_5, d73_6, d73_7, d73_8, d73_9, d73_10, d73_11, d73_12, d73_13⟩ := cq14 BK121.out
              obtain ⟨e73_0, e73_1, e73_2, e73_3, e73_4, e73_5, e73_6, e73_7, e73_8, e73_9, e73_10, e73_11, e73_12, e73_13⟩ := fq14 BK121.out
              go_wp2
              go_ret
              exact ⟨by first | rfl | (simp [zao, zan] <;> rfl) | (simp [*, zao, zan] <;> rfl), by repeat with_reducible first | exact HB.out | apply zac | apply zaa | apply zad | refine zag ?_ GE121.out⟩
             ·rw [if_neg c72] at H
              have c72b0 : (a0_4 == 4) = false := beq_eq_false_iff_ne.mpr c72
              have c72b1 : (a0_4 != 4) = true := bne_iff_ne.mpr c72
              obtain rfl := Option.some.inj H
              obtain ⟨d74_0, d74_1, d74_2, d74_3, d74_4, d74_5, d74_6, d74_7, d74_8, d74_9, d74_10, d74_11, d74_12, d74_13⟩ := cq14 BK121.out
              obtain ⟨e74_0, e74_1, e74_2, e74_3, e74_4, e74_5, e74_6, e74_7, e74_8, e74_9, e74_10, e74_11, e74_12, e74_13⟩ := fq14 BK121.out
              go_wp2
              go_ret
              exact ⟨by first | rfl | (simp [zao, zan] <;> rfl) | (simp [*, zao, zan] <;> rfl), by repeat with_reducible first | exact HB.out | apply zac | apply zaa | apply zad | refine zag ?_ GE121.out⟩
end Go.Proofs.YtikmmigfdchcpaaDoor.PP
