/-
  Proved: a part of the proof of the claim's statement (text Q64 of it).
  Conditions: none of ours.
-/
import Derived.Test.YtikmmigfdchcpaaDoorPaQ0
import Derived.Test.YtikmmigfdchcpaaDoorPaQ4
import Derived.Test.YtikmmigfdchcpaaDoorPaQ63
import Derived.Test.YtikmmigfdchcpaaDoorPaQ34
import Derived.Test.YtikmmigfdchcpaaDoorPaQ48
import Derived.Test.YtikmmigfdchcpaaDoorPaK
import Derived.Test.YtikmmigfdchcpaaDoorPaQ62
namespace Go.Proofs.YtikmmigfdchcpaaDoor.PP
open Go.RowKit Go.Proofs.YtikmmigfdchcpaaDoorW.PrintWords Go.Proofs.YtikmmigfdchcpaaDoorW.PrintLast Go.Proofs.YtikmmigfdchcpaaDoorW.PrintMore
set_option linter.unusedVariables false
set_option linter.unusedSimpArgs false
noncomputable def zb8.f (k : Nat) (l0 : List (S47)) : Option (Bool) := (zbr.f k).bind fun t305 => (if t305 = true then ((za5.f k l0 60).bind fun t306 => (if t306 = true then (some true) else ((zb4.f k l0).bind fun bt307 => ((za6.f k l0).bind fun bt310 => (if bt307.1 = bt310.1 then (some (bt307.2 == bt310.2)) else (some false)))))) else (some false))
set_option maxHeartbeats 8000000 in
set_option maxRecDepth 100000 in
theorem zb8.calls (k : Nat) (A0 : Option Addr) (c0 : Nat) (l0 : List (S47)) (r : Bool) (w : World) (hG : Glob w) (hr0 : Kd.C k47 w A0 l0.length l0) (hc0 : l0.length ≤ c0) (h : zb8.f k l0 = some r) :
  Calls Tryd.prog 3 #[.slice A0 l0.length c0] w fun e w' => e = .returned (.bool r) ∧ Below w.heap.size w w' := by
 have hu27 := Tryd.underlying27
 have HR0 := zad.mk hr0
 have HC0 := zad.mk hc0
 clear hr0 hc0
 have HB := zad.mk (Below.refl w.heap.size w)
 have HG := zad.mk hG
 clear hG
 have H : ((zbr.f k).bind fun t305 => (if t305 = true then ((za5.f k l0 60).bind fun t306 => (if t306 = true then (some true) else ((zb4.f k l0).bind fun bt307 => ((za6.f k l0).bind fun bt310 => (if bt307.1 = bt310.1 then (some (bt307.2 == bt310.2)) else (some false)))))) else (some false))) = some r := h
 clear h
 replace H := Option.bind_eq_some_iff.mp H
 obtain ⟨t305, A20, H⟩ := H
 replace H : (if t305 = true then ((za5.f k l0 60).bind fun t306 => (if t306 = true then (some true) else ((zb4.f k l0).bind fun bt307 => ((za6.f k l0).bind fun bt310 => (if bt307.1 = bt310.1 then (some (bt307.2 == bt310.2)) else (some false)))))) else (some false)) = some r := H
 have A2 := zad.mk A20
 clear A20
 by_cases c3 : t305 = true
 ·subst c3
  have H1 : ((za5.f k l0 60).bind fun t306 => (if t306 = true then (some true) else ((zb4.f k l0).bind fun bt307 => ((za6.f k l0).bind fun bt310 => (if bt307.1 = bt310.1 then (some (bt307.2 == bt310.2)) else (some false)))))) = some r := by rw [if_pos rfl] at H; exact H
  clear H
  have H := H1
  clear H1
  replace H := Option.bind_eq_some_iff.mp H
  obtain ⟨t306, A40, H⟩ := H
  replace H : (if t306 = true then (some true) else ((zb4.f k l0).bind fun bt307 => ((za6.f k l0).bind fun bt310 => (if bt307.1 = bt310.1 then (some (bt307.2 == bt310.2)) else (some false))))) = some r := H
  have A4 := zad.mk A40
  clear A40
  by_cases c5 : t306 = true
  ·subst c5
   have H1 : (some true) = some r := by rw [if_pos rfl] at H; exact H
   clear H
   have H := H1
   clear H1
   obtain rfl := Option.some.inj H
   go_enter Tryd.func3, Tryd.ntmps3
   go_wp2_with (first | ((with_reducible refine za0 (f := 8) rfl ?_); refine zbq (some 6) rfl rfl Tryd.func8 (by kernel_rfl) rfl #[] rfl (by (try simp only [List.map_toArray, List.map_cons, List.map_nil]); first | done | rfl | (simp only [List.length_drop, List.length_take]; rfl)) ?_; (with_reducible refine (zbr.calls k  true _ ?side0 A2.out).mono ?_); (case side0 => exact zbh HG.out (by repeat (first | (with_reducible first | exact HB.out | apply zac | apply zaa | apply zab) | exact HB.out))); rintro e w6 ⟨rfl, hb⟩; refine ⟨_, rfl, ?_⟩; have n0_ := zad.mk (zaq (by repeat (first | (with_reducible first | exact HB.out | apply zac | apply zaa | apply zab) | exact HB.out)) hb); clear HB; have HB := n0_; clear n0_; (try clear hb); (try clear hb2); (try clear hk); (try clear hi)) | ((with_reducible refine za0 (f := 9) rfl ?_); refine zbq (some 9) rfl rfl Tryd.func9 (by kernel_rfl) rfl #[.slice A0 l0.length c0, .int .i64 60] rfl (by (try simp only [List.map_toArray, List.map_cons, List.map_nil]); first | done | rfl | (simp only [List.length_drop, List.length_take]; rfl)) ?_; (with_reducible refine (za5.calls k _ _ l0 60 true _ ?side1 ?side2 A4.out).mono ?_); (case side1 => repeat (first | exact (Kd.zbn HR0.out HB.out) | (with_reducible refine Kd.zb7 ?_ _) | (with_reducible refine Kd.C_drewN ?_ _) | (with_reducible refine Kd.C_drew ?_))); (case side2 => exact HC0.out); rintro e w7 ⟨rfl, hb⟩; refine ⟨_, rfl, ?_⟩; have n0_ := zad.mk (zaq (by repeat (first | (with_reducible first | exact HB.out | apply zac | apply zaa | apply zab) | exact HB.out)) hb); clear HB; have HB := n0_; clear n0_; (try clear hb); (try clear hb2); (try clear hk); (try clear hi)))
   go_ret
   exact ⟨by first | rfl | (simp [zam, zal] <;> rfl) | (simp [*, zam, zal] <;> rfl), by repeat (first | (with_reducible first | exact HB.out | apply zac | apply zaa | apply zab) | exact HB.out)⟩
  ·replace c5 := Bool.eq_false_iff.mpr c5
   subst c5
   have H1 : ((zb4.f k l0).bind fun bt307 => ((za6.f k l0).bind fun bt310 => (if bt307.1 = bt310.1 then (some (bt307.2 == bt310.2)) else (some false)))) = some r := by rw [if_neg (show ¬ (false = true) by decide)] at H; exact H
   clear H
   have H := H1
   clear H1
   replace H := Option.bind_eq_some_iff.mp H
   obtain ⟨⟨t307, t308⟩, A80, H⟩ := H
   replace H : ((za6.f k l0).bind fun bt310 => (if t307 = bt310.1 then (some (t308 == bt310.2)) else (some false))) = some r := H
   have A8 := zad.mk A80
   clear A80
   replace H := Option.bind_eq_some_iff.mp H
   obtain ⟨⟨t310, t311⟩, A90, H⟩ := H
   replace H : (if t307 = t310 then (some (t308 == t311)) else (some false)) = some r := H
   have A9 := zad.mk A90
   clear A90
   by_cases c10 : t307 = t310
   ·rw [if_pos c10] at H
    have c10b0 : (t307 == t310) = true := beq_iff_eq.mpr c10
    have c10b1 : (t307 != t310) = false := bne_eq_false_iff_eq.mpr c10
    clear c10
    obtain rfl := Option.some.inj H
    go_enter Tryd.func3, Tryd.ntmps3
    go_wp2_with (first | ((with_reducible refine za0 (f := 8) rfl ?_); refine zbq (some 6) rfl rfl Tryd.func8 (by kernel_rfl) rfl #[] rfl (by (try simp only [List.map_toArray, List.map_cons, List.map_nil]); first | done | rfl | (simp only [List.length_drop, List.length_take]; rfl)) ?_; (with_reducible refine (zbr.calls k  true _ ?side0 A2.out).mono ?_); (case side0 => exact zbh HG.out (by repeat (first | (with_reducible first | exact HB.out | apply zac | apply zaa | apply zab) | exact HB.out))); rintro e w11 ⟨rfl, hb⟩; refine ⟨_, rfl, ?_⟩; have n0_ := zad.mk (zaq (by repeat (first | (with_reducible first | exact HB.out | apply zac | apply zaa | apply zab) | exact HB.out)) hb); clear HB; have HB := n0_; clear n0_; (try clear hb); (try clear hb2); (try clear hk); (try clear hi)) | ((with_reducible refine za0 (f := 9) rfl ?_); refine zbq (some 9) rfl rfl Tryd.func9 (by kernel_rfl) rfl #[.slice A0 l0.length c0, .int .i64 60] rfl (by (try simp only [List.map_toArray, List.map_cons, List.map_nil]); first | done | rfl | (simp only [List.length_drop, List.length_take]; rfl)) ?_; (with_reducible refine (za5.calls k _ _ l0 60 false _ ?side1 ?side2 A4.out).mono ?_); (case side1 => repeat (first | exact (Kd.zbn HR0.out HB.out) | (with_reducible refine Kd.zb7 ?_ _) | (with_reducible refine Kd.C_drewN ?_ _) | (with_reducible refine Kd.C_drew ?_))); (case side2 => exact HC0.out); rintro e w12 ⟨rfl, hb⟩; refine ⟨_, rfl, ?_⟩; have n0_ := zad.mk (zaq (by repeat (first | (with_reducible first | exact HB.out | apply zac | apply zaa | apply zab) | exact HB.out)) hb); clear HB; have HB := n0_; clear n0_; (try clear hb); (try clear hb2); (try clear hk); (try clear hi)) | ((with_reducible refine za0 (f := 10) rfl ?_); refine zbq (some 11) rfl rfl Tryd.func10 (by kernel_rfl) rfl #[.slice A0 l0.length c0] rfl (by (try simp only [List.map_toArray, List.map_cons, List.map_nil]); first | done | rfl | (simp only [List.length_drop, List.length_take]; rfl)) ?_; (with_reducible refine (zb4.calls k _ _ l0 t307 t308 _ ?side0 ?side1 ?side2 A8.out).mono ?_); (case side0 => exact zbh HG.out (by repeat (first | (with_reducible first | exact HB.out | apply zac | apply zaa | apply zab) | exact HB.out))); (case side1 => repeat (first | exact (Kd.zbn HR0.out HB.out) | (with_reducible refine Kd.zb7 ?_ _) | (with_reducible refine Kd.C_drewN ?_ _) | (with_reducible refine Kd.C_drew ?_))); (case side2 => exact HC0.out); rintro e w13 ⟨rfl, hb⟩; refine ⟨_, rfl, ?_⟩; have n0_ := zad.mk (zaq (by repeat (first | (with_reducible first | exact HB.out | apply zac | apply zaa | apply zab) | exact HB.out)) hb); clear HB; have HB := n0_; clear n0_; (try clear hb); (try clear hb2); (try clear hk); (try clear hi)) | ((with_reducible refine za7 (N := 3) rfl ?_); refine za8 ?hg (N := 3) ?hd (cs := #[.int .i64 0, .int .i64 0]) (t := 27) ?hr ?_; (case hd => rfl); (case hg => rfl); (case hr => first | (go_simp; done) | (go_simp; rfl)); intro gb309 hg w14 hbox hb; have n0_ := zad.mk (zaq (by repeat (first | (with_reducible first | exact HB.out | apply zac | apply zaa | apply zab) | exact HB.out)) hb); have n1_ := zad.mk (hbox); have n2_ := zad.mk ((by rw [hg]; exact (zas (by repeat (first | (with_reducible first | exact HB.out | apply zac | apply zaa | apply zab) | exact HB.out))) : w.heap.size ≤ gb309)); have n3_ := zad.mk ((by rw [hg]; exact (zas (by repeat (first | (with_reducible first | exact HB.out | apply zac | apply zaa | apply zab) | exact HB.out))) : w.heap.size ≤ gb309)); clear HB; have HB := n0_; have BK309 := n1_; have GW309 := n2_; have GE309 := n3_; clear n0_ n1_ n2_ n3_; clear hb hbox hg; obtain ⟨hcz15_0, hcz15_1⟩ := cq2 BK309.out; obtain ⟨hfz15_0, hfz15_1⟩ := fq2 BK309.out) | ((with_reducible refine za0 (f := 11) rfl ?_); refine zbq (some 14) rfl rfl Tryd.func11 (by kernel_rfl) rfl #[.slice A0 l0.length c0] rfl (by (try simp only [List.map_toArray, List.map_cons, List.map_nil]); first | done | rfl | (simp only [List.length_drop, List.length_take]; rfl)) ?_; (with_reducible refine (za6.calls k _ _ l0 t310 t311 _ ?side1 ?side2 A9.out).mono ?_); (case side1 => exact Kd.zbn HR0.out (by repeat (first | (with_reducible first | exact HB.out | apply zac | apply zaa | apply zab | refine zaf ?_ GE309.out) | exact HB.out))); (case side2 => exact HC0.out); rintro e w16 ⟨rfl, hb⟩; refine ⟨_, rfl, ?_⟩; have n0_ := zad.mk (zav (g := gb309) (o := .cells #[.int .i64 t307, .int .i64 t308] 27 (0, 0)) (by (with_reducible repeat (first | refine zah ?_ _ | refine zaj ?_ | refine zai ?_ _)); refine pq2 (.int .i64 0) (.int .i64 0) ?_; (with_reducible repeat (first | refine zah ?_ _ | refine zaj ?_ | refine zai ?_ _)); exact BK309.out) hb); have n1_ := zad.mk (zaq (by repeat (first | (with_reducible first | exact HB.out | apply zac | apply zaa | apply zab | refine zaf ?_ GE309.out) | exact HB.out)) hb); clear BK309; clear HB; have BK309 := n0_; have HB := n1_; clear n0_ n1_; (try clear hb); (try clear hb2); (try clear hk); (try clear hi); obtain ⟨hcz17_0, hcz17_1⟩ := cq2 BK309.out; obtain ⟨hfz17_0, hfz17_1⟩ := fq2 BK309.out))
    go_ret
    exact ⟨by first | rfl | (simp [zam, zal] <;> rfl) | (simp [*, zam, zal] <;> rfl), by repeat (first | (with_reducible first | exact HB.out | apply zac | apply zaa | apply zab | refine zaf ?_ GE309.out) | exact HB.out)⟩
   ·rw [if_neg c10] at H
    have c10b0 : (t307 == t310) = false := beq_eq_false_iff_ne.mpr c10
    have c10b1 : (t307 != t310) = true := bne_iff_ne.mpr c10
    obtain rfl := Option.some.inj H
    go_enter Tryd.func3, Tryd.ntmps3
    go_wp2_with (first | ((with_reducible refine za0 (f := 8) rfl ?_); refine zbq (some 6) rfl rfl Tryd.func8 (by kernel_rfl) rfl #[] rfl (by (try simp only [List.map_toArray, List.map_cons, List.map_nil]); first | done | rfl | (simp only [List.length_drop, List.length_take]; rfl)) ?_; (with_reducible refine (zbr.calls k  true _ ?side0 A2.out).mono ?_); (case side0 => exact zbh HG.out (by repeat (first | (with_reducible first | exact HB.out | apply zac | apply zaa | apply zab) | exact HB.out))); rintro e w18 ⟨rfl, hb⟩; refine ⟨_, rfl, ?_⟩; have n0_ := zad.mk (zaq (by repeat (first | (with_reducible first | exact HB.out | apply zac | apply zaa | apply zab) | exact HB.out)) hb); clear HB; have HB := n0_; clear n0_; (try clear hb); (try clear hb2); (try clear hk); (try clear hi)) | ((with_reducible refine za0 (f := 9) rfl ?_); refine zbq (some 9) rfl rfl Tryd.func9 (by kernel_rfl) rfl #[.slice A0 l0.length c0, .int .i64 60] rfl (by (try simp only [List.map_toArray, List.map_cons, List.map_nil]); first | done | rfl | (simp only [List.length_drop, List.length_take]; rfl)) ?_; (with_reducible refine (za5.calls k _ _ l0 60 false _ ?side1 ?side2 A4.out).mono ?_); (case side1 => repeat (first | exact (Kd.zbn HR0.out HB.out) | (with_reducible refine Kd.zb7 ?_ _) | (with_reducible refine Kd.C_drewN ?_ _) | (with_reducible refine Kd.C_drew ?_))); (case side2 => exact HC0.out); rintro e w19 ⟨rfl, hb⟩; refine ⟨_, rfl, ?_⟩; have n0_ := zad.mk (zaq (by repeat (first | (with_reducible first | exact HB.out | apply zac | apply zaa | apply zab) | exact HB.out)) hb); clear HB; have HB := n0_; clear n0_; (try clear hb); (try clear hb2); (try clear hk); (try clear hi)) | ((with_reducible refine za0 (f := 10) rfl ?_); refine zbq (some 11) rfl rfl Tryd.func10 (by kernel_rfl) rfl #[.slice A0 l0.length c0] rfl (by (try simp only [List.map_toArray, List.map_cons, List.map_nil]); first | done | rfl | (simp only [List.length_drop, List.length_take]; rfl)) ?_; (with_reducible refine (zb4.calls k _ _ l0 t307 t308 _ ?side0 ?side1 ?side2 A8.out).mono ?_); (case side0 => exact zbh HG.out (by repeat (first | (with_reducible first | exact HB.out | apply zac | apply zaa | apply zab) | exact HB.out))); (case side1 => repeat (first | exact (Kd.zbn HR0.out HB.out) | (with_reducible refine Kd.zb7 ?_ _) | (with_reducible refine Kd.C_drewN ?_ _) | (with_reducible refine Kd.C_drew ?_))); (case side2 => exact HC0.out); rintro e w20 ⟨rfl, hb⟩; refine ⟨_, rfl, ?_⟩; have n0_ := zad.mk (zaq (by repeat (first | (with_reducible first | exact HB.out | apply zac | apply zaa | apply zab) | exact HB.out)) hb); clear HB; have HB := n0_; clear n0_; (try clear hb); (try clear hb2); (try clear hk); (try clear hi)) | ((with_reducible refine za7 (N := 3) rfl ?_); refine za8 ?hg (N := 3) ?hd (cs := #[.int .i64 0, .int .i64 0]) (t := 27) ?hr ?_; (case hd => rfl); (case hg => rfl); (case hr => first | (go_simp; done) | (go_simp; rfl)); intro gb309 hg w21 hbox hb; have n0_ := zad.mk (zaq (by repeat (first | (with_reducible first | exact HB.out | apply zac | apply zaa | apply zab) | exact HB.out)) hb); have n1_ := zad.mk (hbox); have n2_ := zad.mk ((by rw [hg]; exact (zas (by repeat (first | (with_reducible first | exact HB.out | apply zac | apply zaa | apply zab) | exact HB.out))) : w.heap.size ≤ gb309)); have n3_ := zad.mk ((by rw [hg]; exact (zas (by repeat (first | (with_reducible first | exact HB.out | apply zac | apply zaa | apply zab) | exact HB.out))) : w.heap.size ≤ gb309)); clear HB; have HB := n0_; have BK309 := n1_; have GW309 := n2_; have GE309 := n3_; clear n0_ n1_ n2_ n3_; clear hb hbox hg; obtain ⟨hcz22_0, hcz22_1⟩ := cq2 BK309.out; obtain ⟨hfz22_0, hfz22_1⟩ := fq2 BK309.out) | ((with_reducible refine za0 (f := 11) rfl ?_); refine zbq (some 14) rfl rfl Tryd.func11 (by kernel_rfl) rfl #[.slice A0 l0.length c0] rfl (by (try simp only [List.map_toArray, List.map_cons, List.map_nil]); first | done | rfl | (simp only [List.length_drop, List.length_take]; rfl)) ?_; (with_reducible refine (za6.calls k _ _ l0 t310 t311 _ ?side1 ?side2 A9.out).mono ?_); (case side1 => exact Kd.zbn HR0.out (by repeat (first | (with_reducible first | exact HB.out | apply zac | apply zaa | apply zab | refine zaf ?_ GE309.out) | exact HB.out))); (case side2 => exact HC0.out); rintro e w23 ⟨rfl, hb⟩; refine ⟨_, rfl, ?_⟩; have n0_ := zad.mk (zav (g := gb309) (o := .cells #[.int .i64 t307, .int .i64 t308] 27 (0, 0)) (by (with_reducible repeat (first | refine zah ?_ _ | refine zaj ?_ | refine zai ?_ _)); refine pq2 (.int .i64 0) (.int .i64 0) ?_; (with_reducible repeat (first | refine zah ?_ _ | refine zaj ?_ | refine zai ?_ _)); exact BK309.out) hb); have n1_ := zad.mk (zaq (by repeat (first | (with_reducible first | exact HB.out | apply zac | apply zaa | apply zab | refine zaf ?_ GE309.out) | exact HB.out)) hb); clear BK309; clear HB; have BK309 := n0_; have HB := n1_; clear n0_ n1_; (try clear hb); (try clear hb2); (try clear hk); (try clear hi); obtain ⟨hcz24_0, hcz24_1⟩ := cq2 BK309.out; obtain ⟨hfz24_0, hfz24_1⟩ := fq2 BK309.out))
    go_ret
    exact ⟨by first | rfl | (simp [zam, zal] <;> rfl) | (simp [*, zam, zal] <;> rfl), by repeat (first | (with_reducible first | exact HB.out | apply zac | apply zaa | apply zab | refine zaf ?_ GE309.out) | exact HB.out)⟩
 ·replace c3 := Bool.eq_false_iff.mpr c3
  subst c3
  have H1 : (some false) = some r := by rw [if_neg (show ¬ (false = true) by decide)] at H; exact H
  clear H
  have H := H1
  clear H1
  obtain rfl := Option.some.inj H
  go_enter Tryd.func3, Tryd.ntmps3
  go_wp2_with (first | ((with_reducible refine za0 (f := 8) rfl ?_); refine zbq (some 6) rfl rfl Tryd.func8 (by kernel_rfl) rfl #[] rfl (by (try simp only [List.map_toArray, List.map_cons, List.map_nil]); first | done | rfl | (simp only [List.length_drop, List.length_take]; rfl)) ?_; (with_reducible refine (zbr.calls k  false _ ?side0 A2.out).mono ?_); (case side0 => exact zbh HG.out (by repeat (first | (with_reducible first | exact HB.out | apply zac | apply zaa | apply zab) | exact HB.out))); rintro e w25 ⟨rfl, hb⟩; refine ⟨_, rfl, ?_⟩; have n0_ := zad.mk (zaq (by repeat (first | (with_reducible first | exact HB.out | apply zac | apply zaa | apply zab) | exact HB.out)) hb); clear HB; have HB := n0_; clear n0_; (try clear hb); (try clear hb2); (try clear hk); (try clear hi)))
  go_ret
  exact ⟨by first | rfl | (simp [zam, zal] <;> rfl) | (simp [*, zam, zal] <;> rfl), by repeat (first | (with_reducible first | exact HB.out | apply zac | apply zaa | apply zab) | exact HB.out)⟩
end Go.Proofs.YtikmmigfdchcpaaDoor.PP
