/-
  Proved: a part of the proof of the claim's statement (text Q65 of it).
  Conditions: none of ours.
-/
import Derived.Test.YtikmmigfdchcpaaDoorPbQ0
import Derived.Test.YtikmmigfdchcpaaDoorPbQ4
import Derived.Test.YtikmmigfdchcpaaDoorPbQ63
import Derived.Test.YtikmmigfdchcpaaDoorPbQ34
import Derived.Test.YtikmmigfdchcpaaDoorPbQ48
import Derived.Test.YtikmmigfdchcpaaDoorPbQ52
import Derived.Test.YtikmmigfdchcpaaDoorPbO
import Derived.Test.YtikmmigfdchcpaaDoorPbR
import Derived.Test.YtikmmigfdchcpaaDoorPbQ62
namespace Go.Proofs.YtikmmigfdchcpaaDoor.PP
open Go.RowKit Go.Proofs.YtikmmigfdchcpaaDoorW.PrintWords Go.Proofs.YtikmmigfdchcpaaDoorW.PrintLast Go.Proofs.YtikmmigfdchcpaaDoorW.PrintMore
set_option linter.unusedVariables false
set_option linter.unusedSimpArgs false
noncomputable def za0.j0 : Nat → List (S47) → List (S41) → Int → Bool → Option (Bool)
 | 0, _, _, _, _ => none
 | k + 1, x0, x3, x5, x30 => if x30 = true then (some false) else (if x5 = 0 then ((zb4.f k x0).bind fun t333 => ((za4.f k x3 t333).bind fun t336 => (some t336))) else (some ((x3.length : Int) == 0)))
noncomputable def za0.f (k : Nat) (l0 : List (S47)) : Option (Bool) := (zb0.f k).bind fun t323 => (if t323 = true then ((zbc.f k l0 60).bind fun t324 => (if t324 = true then (some true) else ((zcf.f k l0).bind fun bt325 => ((zbd.f k l0).bind fun bt331 => (if bt325.2.1 = bt331.1 then (za0.j0 k l0 bt325.1 bt331.1 (bt325.2.2 != bt331.2)) else (za0.j0 k l0 bt325.1 bt331.1 true)))))) else (some false))
set_option maxHeartbeats 8000000 in
set_option maxRecDepth 100000 in
theorem za0.calls (k : Nat) (A0 : Option Addr) (c0 : Nat) (l0 : List (S47)) (r : Bool) (w : World) (hG : Glob w) (hr0 : Kd.C k47 w A0 l0.length l0) (hc0 : l0.length ≤ c0) (h : za0.f k l0 = some r) :
  Calls Tryd.prog 4 #[.slice A0 l0.length c0] w fun e w' => e = .returned (.bool r) ∧ Below w.heap.size w w' := by
 have hu27 := Tryd.underlying27
 have HR0 := zae.mk hr0
 have HC0 := zae.mk hc0
 clear hr0 hc0
 have HB := zae.mk (Below.refl w.heap.size w)
 have HG := zae.mk hG
 clear hG
 have H : ((zb0.f k).bind fun t323 => (if t323 = true then ((zbc.f k l0 60).bind fun t324 => (if t324 = true then (some true) else ((zcf.f k l0).bind fun bt325 => ((zbd.f k l0).bind fun bt331 => (if bt325.2.1 = bt331.1 then (za0.j0 k l0 bt325.1 bt331.1 (bt325.2.2 != bt331.2)) else (za0.j0 k l0 bt325.1 bt331.1 true)))))) else (some false))) = some r := h
 clear h
 replace H := Option.bind_eq_some_iff.mp H
 obtain ⟨t323, A20, H⟩ := H
 replace H : (if t323 = true then ((zbc.f k l0 60).bind fun t324 => (if t324 = true then (some true) else ((zcf.f k l0).bind fun bt325 => ((zbd.f k l0).bind fun bt331 => (if bt325.2.1 = bt331.1 then (za0.j0 k l0 bt325.1 bt331.1 (bt325.2.2 != bt331.2)) else (za0.j0 k l0 bt325.1 bt331.1 true)))))) else (some false)) = some r := H
 have A2 := zae.mk A20
 clear A20
 by_cases c3 : t323 = true
 ·subst c3
  have H1 : ((zbc.f k l0 60).bind fun t324 => (if t324 = true then (some true) else ((zcf.f k l0).bind fun bt325 => ((zbd.f k l0).bind fun bt331 => (if bt325.2.1 = bt331.1 then (za0.j0 k l0 bt325.1 bt331.1 (bt325.2.2 != bt331.2)) else (za0.j0 k l0 bt325.1 bt331.1 true)))))) = some r := by rw [if_pos rfl] at H; exact H
  clear H
  have H := H1
  clear H1
  replace H := Option.bind_eq_some_iff.mp H
  obtain ⟨t324, A40, H⟩ := H
  replace H : (if t324 = true then (some true) else ((zcf.f k l0).bind fun bt325 => ((zbd.f k l0).bind fun bt331 => (if bt325.2.1 = bt331.1 then (za0.j0 k l0 bt325.1 bt331.1 (bt325.2.2 != bt331.2)) else (za0.j0 k l0 bt325.1 bt331.1 true))))) = some r := H
  have A4 := zae.mk A40
  clear A40
  by_cases c5 : t324 = true
  ·subst c5
   have H1 : (some true) = some r := by rw [if_pos rfl] at H; exact H
   clear H
   have H := H1
   clear H1
   obtain rfl := Option.some.inj H
   go_enter Tryd.func4, Tryd.ntmps4
   go_wp2_with (first | ((with_reducible refine za3 (f := 8) rfl ?_); refine zbv (some 7) rfl rfl Tryd.func8 (by kernel_rfl) rfl #[] rfl (by (try simp only [List.map_toArray, List.map_cons, List.map_nil]); first | done | rfl | (simp only [List.length_drop, List.length_take]; rfl)) ?_; (with_reducible refine (zb0.calls k  true _ ?side0 A2.out).mono ?_); (case side0 => exact zbo HG.out (by repeat with_reducible first | exact HB.out | apply zad | apply zaa | apply zac)); rintro e w6 ⟨rfl, hb⟩; refine ⟨_, rfl, ?_⟩; have n0_ := zae.mk (zaq (by repeat with_reducible first | exact HB.out | apply zad | apply zaa | apply zac) hb); clear HB; have HB := n0_; clear n0_; (try clear hb); (try clear hb2); (try clear hk); (try clear hi)) | ((with_reducible refine za3 (f := 9) rfl ?_); refine zbv (some 10) rfl rfl Tryd.func9 (by kernel_rfl) rfl #[.slice A0 l0.length c0, .int .i64 60] rfl (by (try simp only [List.map_toArray, List.map_cons, List.map_nil]); first | done | rfl | (simp only [List.length_drop, List.length_take]; rfl)) ?_; (with_reducible refine (zbc.calls k _ _ l0 60 true _ ?side1 ?side2 A4.out).mono ?_); (case side1 => repeat (first | exact (Kd.zbk HR0.out HB.out) | (with_reducible refine Kd.zbx ?_ _) | (with_reducible refine Kd.C_drewN ?_ _) | (with_reducible refine Kd.C_drew ?_))); (case side2 => exact HC0.out); rintro e w7 ⟨rfl, hb⟩; refine ⟨_, rfl, ?_⟩; have n0_ := zae.mk (zaq (by repeat with_reducible first | exact HB.out | apply zad | apply zaa | apply zac) hb); clear HB; have HB := n0_; clear n0_; (try clear hb); (try clear hb2); (try clear hk); (try clear hi)))
   go_ret
   exact ⟨by first | rfl | (simp [zam, zal] <;> rfl) | (simp [*, zam, zal] <;> rfl), by repeat with_reducible first | exact HB.out | apply zad | apply zaa | apply zac⟩
  ·replace c5 := Bool.eq_false_iff.mpr c5
   subst c5
   have H1 : ((zcf.f k l0).bind fun bt325 => ((zbd.f k l0).bind fun bt331 => (if bt325.2.1 = bt331.1 then (za0.j0 k l0 bt325.1 bt331.1 (bt325.2.2 != bt331.2)) else (za0.j0 k l0 bt325.1 bt331.1 true)))) = some r := by rw [if_neg (show ¬ (false = true) by decide)] at H; exact H
   clear H
   have H := H1
   clear H1
   replace H := Option.bind_eq_some_iff.mp H
   obtain ⟨⟨t325, t328, t329⟩, A80, H⟩ := H
   replace H : ((zbd.f k l0).bind fun bt331 => (if t328 = bt331.1 then (za0.j0 k l0 t325 bt331.1 (t329 != bt331.2)) else (za0.j0 k l0 t325 bt331.1 true))) = some r := H
   have A8 := zae.mk A80
   clear A80
   replace H := Option.bind_eq_some_iff.mp H
   obtain ⟨⟨t331, t332⟩, A90, H⟩ := H
   replace H : (if t328 = t331 then (za0.j0 k l0 t325 t331 (t329 != t332)) else (za0.j0 k l0 t325 t331 true)) = some r := H
   have A9 := zae.mk A90
   clear A90
   have HC10 := zae.mk H
   clear H
   go_enter Tryd.func4, Tryd.ntmps4
   go_upto_region 7 with (first | ((with_reducible refine za3 (f := 8) rfl ?_); refine zbv (some 7) rfl rfl Tryd.func8 (by kernel_rfl) rfl #[] rfl (by (try simp only [List.map_toArray, List.map_cons, List.map_nil]); first | done | rfl | (simp only [List.length_drop, List.length_take]; rfl)) ?_; (with_reducible refine (zb0.calls k  true _ ?side0 A2.out).mono ?_); (case side0 => exact zbo HG.out (by repeat with_reducible first | exact HB.out | apply zad | apply zaa | apply zac)); rintro e w11 ⟨rfl, hb⟩; refine ⟨_, rfl, ?_⟩; have n0_ := zae.mk (zaq (by repeat with_reducible first | exact HB.out | apply zad | apply zaa | apply zac) hb); clear HB; have HB := n0_; clear n0_; (try clear hb); (try clear hb2); (try clear hk); (try clear hi)) | ((with_reducible refine za3 (f := 9) rfl ?_); refine zbv (some 10) rfl rfl Tryd.func9 (by kernel_rfl) rfl #[.slice A0 l0.length c0, .int .i64 60] rfl (by (try simp only [List.map_toArray, List.map_cons, List.map_nil]); first | done | rfl | (simp only [List.length_drop, List.length_take]; rfl)) ?_; (with_reducible refine (zbc.calls k _ _ l0 60 false _ ?side1 ?side2 A4.out).mono ?_); (case side1 => repeat (first | exact (Kd.zbk HR0.out HB.out) | (with_reducible refine Kd.zbx ?_ _) | (with_reducible refine Kd.C_drewN ?_ _) | (with_reducible refine Kd.C_drew ?_))); (case side2 => exact HC0.out); rintro e w12 ⟨rfl, hb⟩; refine ⟨_, rfl, ?_⟩; have n0_ := zae.mk (zaq (by repeat with_reducible first | exact HB.out | apply zad | apply zaa | apply zac) hb); clear HB; have HB := n0_; clear n0_; (try clear hb); (try clear hb2); (try clear hk); (try clear hi)) | ((with_reducible refine za3 (f := 12) rfl ?_); refine zbv (some 13) rfl rfl Tryd.func12 (by kernel_rfl) rfl #[.slice A0 l0.length c0] rfl (by (try simp only [List.map_toArray, List.map_cons, List.map_nil]); first | done | rfl | (simp only [List.length_drop, List.length_take]; rfl)) ?_; (with_reducible refine (zcf.calls k _ _ l0 t325 t328 t329 _ ?side0 ?side1 ?side2 A8.out).mono ?_); (case side0 => exact zbo HG.out (by repeat with_reducible first | exact HB.out | apply zad | apply zaa | apply zac)); (case side1 => repeat (first | exact (Kd.zbk HR0.out HB.out) | (with_reducible refine Kd.zbx ?_ _) | (with_reducible refine Kd.C_drewN ?_ _) | (with_reducible refine Kd.C_drew ?_))); (case side2 => exact HC0.out); rintro e w13 ⟨v326, rfl, ho0, hb⟩; refine ⟨_, rfl, ?_⟩; have n0_ := zae.mk (Kd.S_lower ho0 (zav (by repeat with_reducible first | exact HB.out | apply zad | apply zaa | apply zac))); have n1_ := zae.mk (zaq (by repeat with_reducible first | exact HB.out | apply zad | apply zaa | apply zac) hb); clear HB; have HO327 := n0_; have HB := n1_; clear n0_ n1_; (try clear hb); (try clear hb2); (try clear hk); (try clear hi); (try clear ho0)) | ((with_reducible refine za8 (N := 4) rfl ?_); refine za7 ?hg (N := 4) ?hd (cs := #[.int .i64 0, .int .i64 0]) (t := 27) ?hr ?_; (case hd => rfl); (case hg => rfl); (case hr => first | (go_simp; done) | (go_simp; rfl)); intro gb330 hg w14 hbox hb; have n0_ := zae.mk (Kd.S_below (by (with_reducible repeat (first | apply Kd.S_alloc | apply Kd.S_drewN | apply Kd.S_drew)); exact HO327.out) hb); have n1_ := zae.mk (zaq (by repeat with_reducible first | exact HB.out | apply zad | apply zaa | apply zac) hb); have n2_ := zae.mk (hbox); have n3_ := zae.mk ((by rw [hg]; exact (zav (by repeat with_reducible first | exact HB.out | apply zad | apply zaa | apply zac)) : w.heap.size ≤ gb330)); have n4_ := zae.mk ((by rw [hg]; exact (zav (by repeat with_reducible first | exact HB.out | apply zad | apply zaa | apply zac)) : w.heap.size ≤ gb330)); clear HO327; clear HB; have HO327 := n0_; have HB := n1_; have BK330 := n2_; have GW330 := n3_; have GE330 := n4_; clear n0_ n1_ n2_ n3_ n4_; clear hb hbox hg; obtain ⟨d15_0, d15_1⟩ := cq2 BK330.out; obtain ⟨e15_0, e15_1⟩ := fq2 BK330.out) | ((with_reducible refine za3 (f := 11) rfl ?_); refine zbv (some 18) rfl rfl Tryd.func11 (by kernel_rfl) rfl #[.slice A0 l0.length c0] rfl (by (try simp only [List.map_toArray, List.map_cons, List.map_nil]); first | done | rfl | (simp only [List.length_drop, List.length_take]; rfl)) ?_; (with_reducible refine (zbd.calls k _ _ l0 t331 t332 _ ?side1 ?side2 A9.out).mono ?_); (case side1 => exact Kd.zbk HR0.out (by repeat with_reducible first | exact HB.out | apply zad | apply zaa | apply zac | refine zag ?_ GE330.out)); (case side2 => exact HC0.out); rintro e w16 ⟨rfl, hb⟩; refine ⟨_, rfl, ?_⟩; have n0_ := zae.mk (Kd.S_below (by (with_reducible repeat (first | apply Kd.S_alloc | apply Kd.S_drewN | apply Kd.S_drew)); exact (Kd.S_mono (Kd.S_far (p := ⟨gb330, 1, none⟩) (Kd.S_far (p := ⟨gb330, 0, none⟩) (Kd.S_types HO327.out BK330.out (by decide)) (fun _ hk => hk.2) (.int .i64 t328)) (fun _ hk => hk.2) (.int .i64 t329)) (fun _ h_ => h_.1))) hb); have n1_ := zae.mk (zau (g := gb330) (o := .cells #[.int .i64 t328, .int .i64 t329] 27 (0, 0)) (by (with_reducible repeat (first | refine zai ?_ _ | refine zak ?_ | refine zaj ?_ _)); refine pq2 (.int .i64 0) (.int .i64 0) ?_; (with_reducible repeat (first | refine zai ?_ _ | refine zak ?_ | refine zaj ?_ _)); exact BK330.out) hb); have n2_ := zae.mk (zaq (by repeat with_reducible first | exact HB.out | apply zad | apply zaa | apply zac | refine zag ?_ GE330.out) hb); clear HO327; clear BK330; clear HB; have HO327 := n0_; have BK330 := n1_; have HB := n2_; clear n0_ n1_ n2_; (try clear hb); (try clear hb2); (try clear hk); (try clear hi)))
   (try simp only [Act.put, List.setIfInBounds_toArray, List.set_cons_zero, List.set_cons_succ])
   go_cut [30] (fun v30 wc => ∃ (kq : Nat) (x30_9 : Bool), v30 = .bool x30_9 ∧ zae (za0.j0 kq l0 t325 t331 x30_9 = some r) ∧ zae (kq ≤ k) ∧ zae (Kd.S k41 41 wc w.heap.size (fun _ => True) v326 t325) ∧ zae (wc.heap[gb330]? = some (.cells #[.int .i64 t328, .int .i64 t329] 27 (0, 0))) ∧ zae (Below w.heap.size w wc))
   case first =>
    have H := HC10.out
    clear HC10
    by_cases c17 : t328 = t331
    ·rw [if_pos c17] at H
     have c17b0 : (t328 == t331) = true := beq_iff_eq.mpr c17
     have c17b1 : (t328 != t331) = false := bne_eq_false_iff_eq.mpr c17
     clear c17
     (first | rw [c17b0] | (simp only [i64_w]; rw [c17b0]) | skip)
     have H' := zae.mk H
     clear H
     obtain ⟨d18_0, d18_1⟩ := cq2 BK330.out
     obtain ⟨e18_0, e18_1⟩ := fq2 BK330.out
     go_wp2
     go_meet
     case rel => exact ⟨_, ((t329 != t332)), (by first | rfl | (simp; done) | (simp [*]; done)), H', ⟨by first | omega | exact Nat.le_refl _⟩, ⟨by (with_reducible repeat (first | apply Kd.S_alloc | apply Kd.S_drewN | apply Kd.S_drew)); exact HO327.out⟩, ⟨by (with_reducible repeat (first | refine zai ?_ _ | refine zak ?_ | refine zaj ?_ _)); exact BK330.out⟩, ⟨by repeat with_reducible first | exact HB.out | apply zad | apply zaa | apply zac | refine zag ?_ GE330.out⟩⟩
    ·rw [if_neg c17] at H
     have c17b0 : (t328 == t331) = false := beq_eq_false_iff_ne.mpr c17
     have c17b1 : (t328 != t331) = true := bne_iff_ne.mpr c17
     (first | rw [c17b0] | (simp only [i64_w]; rw [c17b0]) | skip)
     have H' := zae.mk H
     clear H
     obtain ⟨d19_0, d19_1⟩ := cq2 BK330.out
     obtain ⟨e19_0, e19_1⟩ := fq2 BK330.out
     go_wp2
     go_meet
     case rel => exact ⟨_, (true), (by first | rfl | (simp; done) | (simp [*]; done)), H', ⟨by first | omega | exact Nat.le_refl _⟩, ⟨by (with_reducible repeat (first | apply Kd.S_alloc | apply Kd.S_drewN | apply Kd.S_drew)); exact HO327.out⟩, ⟨by (with_reducible repeat (first | refine zai ?_ _ | refine zak ?_ | refine zaj ?_ _)); exact BK330.out⟩, ⟨by repeat with_reducible first | exact HB.out | apply zad | apply zaa | apply zac | refine zag ?_ GE330.out⟩⟩
   case rest =>
    clear HC10
    try clear c1
    try clear p2
    try clear c3
    try clear c4
    try clear c5
    try clear c8
    try clear c9
    try clear c11
    try clear c12
    try clear c17
    try clear c17b0
    try clear c17b1
    try clear d15_0 d15_1
    try clear d18_0 d18_1
    try clear d19_0 d19_1
    try clear e15_0 e15_1
    try clear e18_0 e18_1
    try clear e19_0 e19_1
    obtain ⟨kq, x30_9, rfl, HA, HJ9, HO_3, BK330, HB⟩ := hcut
    cases kq with
    | zero => exact absurd HA.out (by simp [za0.j0])
    | succ kj9 =>
     have H := HA.out
     clear HA
     simp only [za0.j0] at H
     by_cases c20 : x30_9 = true
     ·subst c20
      have H1 : (some false) = some r := by rw [if_pos rfl] at H; exact H
      clear H
      have H := H1
      clear H1
      obtain rfl := Option.some.inj H
      go_wp2
      go_ret
      exact ⟨by first | rfl | (simp [zam, zal] <;> rfl) | (simp [*, zam, zal] <;> rfl), by repeat with_reducible first | exact HB.out | apply zad | apply zaa | apply zac | refine zag ?_ GE330.out⟩
     ·replace c20 := Bool.eq_false_iff.mpr c20
      subst c20
      have H1 : (if t331 = 0 then ((zb4.f kj9 l0).bind fun t333 => ((za4.f kj9 t325 t333).bind fun t336 => (some t336))) else (some ((t325.length : Int) == 0))) = some r := by rw [if_neg (show ¬ (false = true) by decide)] at H; exact H
      clear H
      have H := H1
      clear H1
      by_cases c21 : t331 = 0
      ·rw [if_pos c21] at H
       have c21b0 : (t331 == 0) = true := beq_iff_eq.mpr c21
       have c21b1 : (t331 != 0) = false := bne_eq_false_iff_eq.mpr c21
       clear c21
       replace H := Option.bind_eq_some_iff.mp H
       obtain ⟨t333, A220, H⟩ := H
       replace H : ((za4.f kj9 t325 t333).bind fun t336 => (some t336)) = some r := H
       have A22 := zae.mk A220
       clear A220
       replace H := Option.bind_eq_some_iff.mp H
       obtain ⟨t336, A230, H⟩ := H
       replace H : (some t336) = some r := H
       have A23 := zae.mk A230
       clear A230
       obtain rfl := Option.some.inj H
       go_wp2_with (first | ((with_reducible refine za3 (f := 14) rfl ?_); refine zbv (some 38) rfl rfl Tryd.func14 (by kernel_rfl) rfl #[.slice A0 l0.length c0] rfl (by (try simp only [List.map_toArray, List.map_cons, List.map_nil]); first | done | rfl | (simp only [List.length_drop, List.length_take]; rfl)) ?_; (with_reducible refine (zb4.calls kj9 _ _ l0 t333 _ ?side1 ?side2 A22.out).mono ?_); (case side1 => repeat (first | exact (Kd.zbk HR0.out HB.out) | (with_reducible refine Kd.zbx ?_ _) | (with_reducible refine Kd.C_drewN ?_ _) | (with_reducible refine Kd.C_drew ?_))); (case side2 => exact HC0.out); rintro e w24 ⟨Ao26, co26, rfl, hl26, ho0, hb⟩; refine ⟨_, rfl, ?_⟩; have n0_ := zae.mk (Kd.S_below (by (with_reducible repeat (first | apply Kd.S_alloc | apply Kd.S_drewN | apply Kd.S_drew)); exact HO_3.out) hb); have n1_ := zae.mk (And.intro hl26 ho0); have n2_ := zae.mk (zau (g := gb330) (o := .cells #[.int .i64 t328, .int .i64 t329] 27 (0, 0)) (by (with_reducible repeat (first | refine zai ?_ _ | refine zak ?_ | refine zaj ?_ _)); exact BK330.out) hb); have n3_ := zae.mk (zaq (by repeat with_reducible first | exact HB.out | apply zad | apply zaa | apply zac | refine zag ?_ GE330.out) hb); clear HO_3; clear BK330; clear HB; have HO_3 := n0_; have HO335 := n1_; have BK330 := n2_; have HB := n3_; clear n0_ n1_ n2_ n3_; (try clear hb); (try clear hb2); (try clear hk); (try clear hi); (try clear ho0); obtain ⟨Ao25, co25, eo25⟩ := Kd.S_slice HO_3.out; subst eo25) | ((with_reducible refine za3 (f := 13) rfl ?_); refine zbv (some 39) rfl rfl Tryd.func13 (by kernel_rfl) rfl #[.slice Ao25 t325.length co25, .slice Ao26 t333.length co26] rfl (by (try simp only [List.map_toArray, List.map_cons, List.map_nil]); first | done | rfl | (simp only [List.length_drop, List.length_take]; rfl)) ?_; (with_reducible refine (za4.calls kj9 _ _ t325 _ _ t333 t336 _ ?side1 ?side2 ?side3 ?side4 A23.out).mono ?_); (case side1 => repeat (first | exact (Kd.S_reads' HO_3.out).2.2 | (with_reducible refine Kd.zbx ?_ _) | (with_reducible refine Kd.C_drewN ?_ _) | (with_reducible refine Kd.C_drew ?_))); (case side2 => exact (Kd.S_reads' HO_3.out).2.1); (case side3 => repeat (first | exact HO335.out.2 | (with_reducible refine Kd.zbx ?_ _) | (with_reducible refine Kd.C_drewN ?_ _) | (with_reducible refine Kd.C_drew ?_))); (case side4 => exact HO335.out.1); rintro e w27 ⟨rfl, hb⟩; refine ⟨_, rfl, ?_⟩; have n0_ := zae.mk (Kd.S_below (by (with_reducible repeat (first | apply Kd.S_alloc | apply Kd.S_drewN | apply Kd.S_drew)); exact HO_3.out) hb); have n1_ := zae.mk (Kd.zbk HO335.out.2 hb); have n2_ := zae.mk (zau (g := gb330) (o := .cells #[.int .i64 t328, .int .i64 t329] 27 (0, 0)) (by (with_reducible repeat (first | refine zai ?_ _ | refine zak ?_ | refine zaj ?_ _)); exact BK330.out) hb); have n3_ := zae.mk (zaq (by repeat with_reducible first | exact HB.out | apply zad | apply zaa | apply zac | refine zag ?_ GE330.out) hb); clear HO_3; clear HO335; clear BK330; clear HB; have HO_3 := n0_; have HO335 := n1_; have BK330 := n2_; have HB := n3_; clear n0_ n1_ n2_ n3_; (try clear hb); (try clear hb2); (try clear hk); (try clear hi)))
       go_ret
       exact ⟨by first | rfl | (simp [zam, zal] <;> rfl) | (simp [*, zam, zal] <;> rfl), by repeat with_reducible first | exact HB.out | apply zad | apply zaa | apply zac | refine zag ?_ GE330.out⟩
      ·rw [if_neg c21] at H
       have c21b0 : (t331 == 0) = false := beq_eq_false_iff_ne.mpr c21
       have c21b1 : (t331 != 0) = true := bne_iff_ne.mpr c21
       obtain rfl := Option.some.inj H
       obtain ⟨Ao28, co28, eo28⟩ := Kd.S_slice HO_3.out
       subst eo28
       go_wp2
       go_ret
       exact ⟨by first | rfl | (simp [zam, zal] <;> rfl) | (simp [*, zam, zal] <;> rfl), by repeat with_reducible first | exact HB.out | apply zad | apply zaa | apply zac | refine zag ?_ GE330.out⟩
 ·replace c3 := Bool.eq_false_iff.mpr c3
  subst c3
  have H1 : (some false) = some r := by rw [if_neg (show ¬ (false = true) by decide)] at H; exact H
  clear H
  have H := H1
  clear H1
  obtain rfl := Option.some.inj H
  go_enter Tryd.func4, Tryd.ntmps4
  go_wp2_with (first | ((with_reducible refine za3 (f := 8) rfl ?_); refine zbv (some 7) rfl rfl Tryd.func8 (by kernel_rfl) rfl #[] rfl (by (try simp only [List.map_toArray, List.map_cons, List.map_nil]); first | done | rfl | (simp only [List.length_drop, List.length_take]; rfl)) ?_; (with_reducible refine (zb0.calls k  false _ ?side0 A2.out).mono ?_); (case side0 => exact zbo HG.out (by repeat with_reducible first | exact HB.out | apply zad | apply zaa | apply zac)); rintro e w29 ⟨rfl, hb⟩; refine ⟨_, rfl, ?_⟩; have n0_ := zae.mk (zaq (by repeat with_reducible first | exact HB.out | apply zad | apply zaa | apply zac) hb); clear HB; have HB := n0_; clear n0_; (try clear hb); (try clear hb2); (try clear hk); (try clear hi)))
  go_ret
  exact ⟨by first | rfl | (simp [zam, zal] <;> rfl) | (simp [*, zam, zal] <;> rfl), by repeat with_reducible first | exact HB.out | apply zad | apply zaa | apply zac⟩
end Go.Proofs.YtikmmigfdchcpaaDoor.PP
