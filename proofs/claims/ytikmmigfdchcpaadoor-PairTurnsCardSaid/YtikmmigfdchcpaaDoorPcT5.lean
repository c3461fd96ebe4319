/-
  Proved: a part of the proof of the claim's statement (text T5 of it).
  Conditions: none of ours.
-/
import Derived.IntWalk
import Derived.Test.YtikmmigfdchcpaaDoorPcQ0
import Derived.Test.YtikmmigfdchcpaaDoorPcL7
import Derived.Test.YtikmmigfdchcpaaDoorPcQ34
import Derived.Test.YtikmmigfdchcpaaDoorPcQ1
import Derived.Test.YtikmmigfdchcpaaDoorPcQ62
import Derived.Test.YtikmmigfdchcpaaDoorPcO
namespace Go.Proofs.YtikmmigfdchcpaaDoor.PP
open Go.RowKit Go.Proofs.YtikmmigfdchcpaaDoorW.PrintWords Go.Proofs.YtikmmigfdchcpaaDoorW.PrintLast Go.Proofs.YtikmmigfdchcpaaDoorW.PrintMore
set_option linter.unusedVariables false
set_option linter.unusedSimpArgs false
attribute [local go_sem high] eqA38 eqA27
theorem turn_fact {l : List S47} {O : List S41} {x y : S41} {i j : Int} (hw : ∀ j, j < l.length → wrongS l j = 0) (hO : O = opsF l l.length 0) (hx : x = zbl O i) (hy : y = zbl (O.drop (i + 1).toNat) j) (hi0 : 0 ≤ i) (hj0 : 0 ≤ j) (hj : j < ((O.length - (i + 1).toNat : Nat) : Int)) : ceq x.f0 y.f0 = true → 0 ≤ x.f7 ∧ x.f7 < y.f6 := by
 rw [hy, hx]
 have ht := turns_at (l := l) hw (p := i.toNat) (q := (i + 1).toNat + j.toNat) (by omega) (by rw [← hO]; omega)
 rw [← hO, Int.toNat_of_nonneg hi0] at ht
 have e : zbl (O.drop (i + 1).toNat) j = zbl O (((i + 1).toNat + j.toNat : Nat) : Int) := by simp only [zbl, List.getD_eq_getElem?_getD, List.getElem?_drop, Int.toNat_natCast]
 rw [e]
 exact ht.2
set_option maxHeartbeats 16000000 in
set_option maxRecDepth 100000 in
theorem pairTurns_any (w : World) (A : Option Addr) (c : Nat) (l : List S47) (hG : Glob w) (hC : Kd.C k47 w A l.length l) (hc : l.length ≤ c) (hd : DataOk l) :
  Calls Tryd.prog 5 #[.slice A l.length c] w fun e w' => e = .returned (.bool true) ∧ Below w.heap.size w w' := by
 have hu27 := Tryd.underlying27
 have hu38 := Tryd.underlying38
 have hu41 := Tryd.underlying41
 have hu47 := Tryd.underlying47
 obtain ⟨k1, hk1⟩ := ev_wakes.rounds
 obtain ⟨b, hb, hlen⟩ := ev_great l hd
 obtain ⟨k2, hk2⟩ := hb.rounds
 have HG := zac.mk hG
 have HC := zac.mk hC
 have HL := zac.mk hc
 have K1 := zac.mk hk1
 have K2 := zac.mk hk2
 have HD := zac.mk hd
 have HLEN := zac.mk hlen
 clear hG hC hc hk1 hk2 hb hd hlen
 go_enter Tryd.func5, Tryd.ntmps5
 go_wp2_with fail
 refine (zbk.calls k1 true w HG.out K1.out).mono ?_
 rintro e w1 ⟨rfl, hb1⟩
 have HB1 := zac.mk hb1
 clear hb1
 go_wp2_with fail
 refine (zaz.calls k2 _ _ l 60 b _ (Kd.zbd HC.out HB1.out) HL.out K2.out).mono ?_
 rintro e w2 ⟨rfl, hb2⟩
 have HB2 := zac.mk (zaw HB1.out HB1.out.size hb2)
 clear hb2 HB1
 cases b with
 | true =>
  go_wp2
  go_ret
  exact ⟨rfl, HB2.out⟩
 | false =>
  have hl60 := HLEN.out rfl
  have hg : Good l := ⟨by omega, HD.out⟩
  obtain ⟨k3, hk3⟩ := (ev_opers l hg).rounds
  obtain ⟨O, hO⟩ : ∃ O, O = opsF l l.length 0 := ⟨_, rfl⟩
  obtain ⟨e0, he0⟩ : ∃ e0, e0 = (chkS l l.length 0).1 := ⟨_, rfl⟩
  obtain ⟨at0, hat0⟩ : ∃ at0, at0 = (chkS l l.length 0).2 := ⟨_, rfl⟩
  unfold opsS at hk3
  rw [← hO, ← he0, ← hat0] at hk3
  have HOE := zac.mk hO
  have HE := zac.mk he0
  have HGO := zac.mk hg
  have H60 := zac.mk hl60
  by_cases ce : e0 = 0
  ·subst ce
   rw [if_pos rfl] at hk3
   have K3 := zac.mk hk3
   have HW := zac.mk (show ∀ j, j < l.length → wrongS l j = 0 from fun j hj => chkS_zero.1 he0.symm j (Nat.zero_le _) (by omega))
   have HOL := zac.mk (show O.length ≤ 60 by rw [hO]; have := (opsF_ok hg l.length 0 (by omega)).1; omega)
   clear hO he0 hat0 hk3 hg hl60
   go_wp2_with fail
   refine (zbw.calls k3 _ _ l O 0 at0 _ (za7 HG.out HB2.out) (Kd.zbd HC.out HB2.out) HL.out K3.out).mono ?_
   rintro e w3 ⟨v3, rfl, hS, hb3⟩
   obtain ⟨A3, c3, e3⟩ := Kd.S_slice hS
   subst e3
   have CS := zac.mk (Kd.S_reads' hS).2.2
   have CL := zac.mk (Kd.S_reads' hS).2.1
   have HB3 := zac.mk (zaw HB2.out HB2.out.size hb3)
   clear hS hb3 HB2
   go_upto_region 6 with (((with_reducible refine za5 (N := 4) rfl ?_); refine za2 ?hg (N := 4) ?hd (cs := #[.int .i64 0, .int .i64 0]) (t := 27) ?hr ?_; (case hd => rfl); (case hg => rfl); (case hr => first | (go_simp; done) | (go_simp; rfl)); intro gb hg w4 hbox hb; have HB4 := zac.mk (zaw HB3.out HB3.out.size hb); have BX := zac.mk hbox; have CS4 := zac.mk (Kd.zbd CS.out hb); have GE := zac.mk (show w.heap.size ≤ gb by rw [hg]; exact HB3.out.size); have GE2 := zac.mk (show w3.heap.size ≤ gb by rw [hg]; exact Nat.le_refl _); have HBX := zac.mk hb; clear hb hbox hg; have x0 : w4.cell? ⟨gb, 0, none⟩ = some (.int .i64 0) := (zaa BX.out 0).trans rfl; have x1 : w4.cell? ⟨gb, 1, none⟩ = some (.int .i64 0) := (zaa BX.out 1).trans rfl; have f0 := zag BX.out 0; have f1 := zag BX.out 1))
   refine zbs (G := fun W => Code.wp _ _ _ _ W) _ (fun W4 hW4 => ?_)
   have BX4 := zac.mk (show W4.heap[gb]? = some (.cells #[.int .i64 0, .int .i64 at0] 27 (0, 0)) by rw [hW4]; exact zax (cs := #[.int .i64 0, .int .i64 0]) (zax (cs := #[.int .i64 0, .int .i64 0]) (cs' := #[.int .i64 0, .int .i64 0]) BX.out 0 (.int .i64 0) rfl) 1 (.int .i64 at0) rfl)
   have HBX4 := show Below w3.heap.size w3 W4 by rw [hW4]; exact (HBX.out.setCell (p := ⟨gb, 0, none⟩) GE2.out _).setCell (p := ⟨gb, 1, none⟩) GE2.out _
   have HB4' := zac.mk (zaw HB3.out HB3.out.size HBX4)
   have C4 := zac.mk (Kd.zbd CS.out HBX4)
   clear hW4 x0 x1 f0 f1 BX CS4 HB4 HBX HBX4 CS HB3
   have x0 : W4.cell? ⟨gb, 0, none⟩ = some (.int .i64 0) := (zaa BX4.out 0).trans rfl
   go_wp2
   clear x0
   go_loopw [26] (fun v wr => ∃ i : Int, v = .int .i64 i ∧ zac (0 ≤ i ∧ i ≤ (O.length : Int)) ∧ zac (Below W4.heap.size W4 wr)) (fun v _ => O.length - (intOf v).toNat)
   case atStart => exact ⟨0, rfl, ⟨⟨Int.le_refl _, by omega⟩⟩, ⟨Below.refl _ _⟩⟩
   case round =>
    obtain ⟨i, rfl, HI, HB⟩ := hrel
    by_cases hlt : i < (O.length : Int)
    ·have c2b0 : decide (i < (O.length : Int)) = true := decide_eq_true hlt
     have p0 := eq_true HI.out.1
     have hi0 := HI.out.1
     have q0 := eq_true hlt
     have hi60 : i < 60 := by have := HOL.out; omega
     have CI := zac.mk hlt
     clear hlt
     obtain ⟨x, hx⟩ : ∃ x, x = zbl O i := ⟨_, rfl⟩
     obtain ⟨ad, A8, c8, A9, c9, ea, hx0, hx1, hx2, hx3, hx4, hx5, hx6, hx7, hx8, hx9, hx10, hx11, hl8, hi8, hl9, hi9⟩ := at_T41 (Kd.zbd C4.out HB.out) i HI.out.1 CI.out
     cases ea
     have EACH := zac.mk (show 0 ≤ x.f6 ∧ x.f6 < (l.length : Int) ∧ (x.f7 = -1 ∨ (x.f6 < x.f7 ∧ x.f7 < (l.length : Int))) by rw [hx]; have hm := rd41_mem (o := O) (i := i.toNat) (by have := CI.out; omega); rw [Int.toNat_of_nonneg hi0, HOE.out] at hm; rw [HOE.out]; exact turns_each hm)
     have PREV := zac.mk (show 0 < i → (zbl O (i - 1)).f6 < x.f6 by intro hp; rw [hx]; have ht := turns_at (l := l) HW.out (p := i.toNat - 1) (q := i.toNat) (by omega) (by rw [← HOE.out]; have := CI.out; omega); rw [← HOE.out, show ((i.toNat - 1 : Nat) : Int) = i - 1 by omega, Int.toNat_of_nonneg hi0] at ht; exact ht.1)
     rw [← hx] at hx0 hx1 hx2 hx3 hx4 hx5 hx6 hx7 hx8 hx9 hx10 hx11 hl8 hi8 hl9 hi9
     have HXE := zac.mk hx
     clear hx hi8 hi9 hl8 hl9
     have NB := zac.mk HB.out.size
     go_upto_region 11 with ((with_reducible refine za5 (N := 6) rfl ?_); refine za2 ?hg (N := 6) ?hd (cs := #[.int .i64 0, .int .i64 0, .string (⟨#[]⟩ : ByteArray), .int .i64 0, .int .i64 0, .int .i64 0, .string (⟨#[]⟩ : ByteArray), .int .i64 0, .slice none 0 0, .slice none 0 0, .int .i64 0, .int .i64 0]) (t := 41) ?hr ?_; (case hd => rfl); (case hg => rfl); (case hr => first | (go_simp; done) | (go_simp; rfl)); intro gx hg w2 hbox hb; have HB2 := zac.mk (zaw HB.out HB.out.size hb); have BX2 := zac.mk hbox; have GX := zac.mk (show wr.heap.size ≤ gx from Nat.le_of_eq hg.symm); clear hbox hb hg HB; have hz0 : w2.cell? ⟨gx, 0, none⟩ = some (.int .i64 0) := (zaa BX2.out 0).trans rfl; have hf0 := zag BX2.out 0; have hz1 : w2.cell? ⟨gx, 1, none⟩ = some (.int .i64 0) := (zaa BX2.out 1).trans rfl; have hf1 := zag BX2.out 1; have hz2 : w2.cell? ⟨gx, 2, none⟩ = some (.string (⟨#[]⟩ : ByteArray)) := (zaa BX2.out 2).trans rfl; have hf2 := zag BX2.out 2; have hz3 : w2.cell? ⟨gx, 3, none⟩ = some (.int .i64 0) := (zaa BX2.out 3).trans rfl; have hf3 := zag BX2.out 3; have hz4 : w2.cell? ⟨gx, 4, none⟩ = some (.int .i64 0) := (zaa BX2.out 4).trans rfl; have hf4 := zag BX2.out 4; have hz5 : w2.cell? ⟨gx, 5, none⟩ = some (.int .i64 0) := (zaa BX2.out 5).trans rfl; have hf5 := zag BX2.out 5; have hz6 : w2.cell? ⟨gx, 6, none⟩ = some (.string (⟨#[]⟩ : ByteArray)) := (zaa BX2.out 6).trans rfl; have hf6 := zag BX2.out 6; have hz7 : w2.cell? ⟨gx, 7, none⟩ = some (.int .i64 0) := (zaa BX2.out 7).trans rfl; have hf7 := zag BX2.out 7; have hz8 : w2.cell? ⟨gx, 8, none⟩ = some (.slice none 0 0) := (zaa BX2.out 8).trans rfl; have hf8 := zag BX2.out 8; have hz9 : w2.cell? ⟨gx, 9, none⟩ = some (.slice none 0 0) := (zaa BX2.out 9).trans rfl; have hf9 := zag BX2.out 9; have hz10 : w2.cell? ⟨gx, 10, none⟩ = some (.int .i64 0) := (zaa BX2.out 10).trans rfl; have hf10 := zag BX2.out 10; have hz11 : w2.cell? ⟨gx, 11, none⟩ = some (.int .i64 0) := (zaa BX2.out 11).trans rfl; have hf11 := zag BX2.out 11)
     refine zbs (G := fun W => Code.wp _ _ _ _ W) _ (fun W5 hW5 => ?_)
     have hnx : W4.heap.size ≤ gx := Nat.le_trans NB.out GX.out
     have BX5 := zac.mk (show W5.heap[gx]? = some (.cells #[.int .i64 x.f0.f0, .int .i64 x.f0.f1, .string x.f0.f2, .int .i64 x.f1, .int .i64 x.f2.f0, .int .i64 x.f2.f1, .string x.f2.f2, .int .i64 x.f3, .slice A8 x.f4.length c8, .slice A9 x.f5.length c9, .int .i64 x.f6, .int .i64 x.f7] 41 (0, 0)) by rw [hW5]; exact put12' BX2.out)
     have HB5 := zac.mk (show Below W4.heap.size W4 W5 by rw [hW5]; exact belown12 HB2.out hnx)
     clear hz0 hf0 hz1 hf1 hz2 hf2 hz3 hf3 hz4 hf4 hz5 hf5 hz6 hf6 hz7 hf7 hz8 hf8 hz9 hf9 hz10 hf10 hz11 hf11 hx0 hx1 hx2 hx3 hx4 hx5 hx6 hx7 hx8 hx9 hx10 hx11
     clear hW5 HB2 BX2 GX hnx
     have y0 : W5.cell? ⟨gx, 0, none⟩ = some (.int .i64 x.f0.f0) := (zaa BX5.out 0).trans rfl
     have y1 : W5.cell? ⟨gx, 1, none⟩ = some (.int .i64 x.f0.f1) := (zaa BX5.out 1).trans rfl
     have y2 : W5.cell? ⟨gx, 2, none⟩ = some (.string x.f0.f2) := (zaa BX5.out 2).trans rfl
     have y3 : W5.cell? ⟨gx, 3, none⟩ = some (.int .i64 x.f1) := (zaa BX5.out 3).trans rfl
     have y4 : W5.cell? ⟨gx, 4, none⟩ = some (.int .i64 x.f2.f0) := (zaa BX5.out 4).trans rfl
     have y5 : W5.cell? ⟨gx, 5, none⟩ = some (.int .i64 x.f2.f1) := (zaa BX5.out 5).trans rfl
     have y6 : W5.cell? ⟨gx, 6, none⟩ = some (.string x.f2.f2) := (zaa BX5.out 6).trans rfl
     have y7 : W5.cell? ⟨gx, 7, none⟩ = some (.int .i64 x.f3) := (zaa BX5.out 7).trans rfl
     have y8 : W5.cell? ⟨gx, 8, none⟩ = some (.slice A8 x.f4.length c8) := (zaa BX5.out 8).trans rfl
     have y9 : W5.cell? ⟨gx, 9, none⟩ = some (.slice A9 x.f5.length c9) := (zaa BX5.out 9).trans rfl
     have y10 : W5.cell? ⟨gx, 10, none⟩ = some (.int .i64 x.f6) := (zaa BX5.out 10).trans rfl
     have y11 : W5.cell? ⟨gx, 11, none⟩ = some (.int .i64 x.f7) := (zaa BX5.out 11).trans rfl
     have r0 : decide (x.f6 < 0) = false := decide_eq_false (by have := EACH.out; omega)
     have r1 : decide ((l.length : Int) ≤ x.f6) = false := decide_eq_false (by have := EACH.out; omega)
     obtain ⟨rb, hrb⟩ : ∃ rb, rb = (x.f7 != -1) := ⟨_, rfl⟩
     have hrb2 : (x.f7 == -1) = !rb := by rw [hrb]; simp [bne]
     have hrb1 := hrb.symm
     have r3 : rb = true → decide (x.f7 ≤ x.f6) = false ∧ decide ((l.length : Int) ≤ x.f7) = false := by
      intro e
      rw [hrb, bne_iff_ne] at e
      have := EACH.out
      exact ⟨decide_eq_false (by omega), decide_eq_false (by omega)⟩
     clear hrb
     by_cases hi1 : 0 < i
     ·have r5 : decide (0 < i) = true := decide_eq_true hi1
      obtain ⟨ad2, B8, d8, B9, d9, ea2, hm0, hm1, hm2, hm3, hm4, hm5, hm6, hm7, hm8, hm9, hm10, hm11, _, _, _, _⟩ := at_T41 C4.out (i - 1) (by omega) (by have := CI.out; omega)
      cases ea2
      have r6 : decide (x.f6 ≤ (zbl O (i - 1)).f6) = false := decide_eq_false (by have := PREV.out hi1; omega)
      have hm := zaf HB5.out hm10
      clear hm0 hm1 hm2 hm3 hm4 hm5 hm6 hm7 hm8 hm9 hm10 hm11
      have hw1 : IntKind.i64.wrap (i - 1) = i - 1 := IntWalk.i64_in _ (by omega)
      rw [show (i - 1).toNat = i.toNat - 1 by omega] at hm
      have hw2 : 0 ≤ i - 1 := by omega
      have hw4 := eq_true (show 1 ≤ i by omega)
      have hw3 : i - 1 < (O.length : Int) := by have := CI.out; omega
      cases rb with
      | true =>
       have r31 := (r3 rfl).1
       have r32 := (r3 rfl).2
       clear r3
       refine start_ (n := 44) (ds := []) (S := fun w' => w'.cell? ⟨gx, 10, none⟩ = some (.int .i64 x.f6) ∧ w'.cell? ⟨gx, 11, none⟩ = some (.int .i64 x.f7) ∧ w'.cell? ⟨(ad.add ((i.toNat - 1) * 12)).block, (ad.add ((i.toNat - 1) * 12)).off + 10, none⟩ = some (.int .i64 (zbl O (i - 1)).f6)) #[false, false, false, false, false, false, false, false, false, false, false, false, false, false, false, false, false, false, false, false, false, false, false, false, false, false, false, false, false, false, false, false, false, false, false, false, false, false, false, false, false, false, false, false] (by rfl) rfl rfl ⟨y10, y11, hm⟩ (fun hHeld => ?_)
       have BX6 := zac.mk (zan BX5.out)
       have HB6 := zac.mk (zae HB5.out)
       clear BX5 HB5 y0 y1 y2 y3 y4 y5 y6 y7 y8 y9 y10 y11 hm
       generalize W5.drew = W6 at BX6 HB6 hHeld ⊢
       refine pz_ 0 31 ?_ ?_ (bz 44 1) rfl rfl (by kernel_rfl) (fun _ _ _ h => h) (Or.inl ⟨by rfl, ?_⟩) ?_ ?_; rotate_left 2; (intro w'; go_simp; with_reducible rfl); (simp only [zps]; rfl)
       refine tz_ 1 32 ?_ ?_ (bz 44 3) rfl rfl (by kernel_rfl) (fun _ _ _ h => h) (Or.inl ⟨by rfl, ?_⟩) hHeld ?_ ?_; rotate_left 2; (rintro w' ⟨s0, s1, s2⟩; go_simp; with_reducible rfl); (simp only [zps]; rfl)
       refine pz_ 2 33 ?_ ?_ (bz 44 7) rfl rfl (by kernel_rfl) (fun _ _ _ h => h) (Or.inl ⟨by rfl, ?_⟩) ?_ ?_; rotate_left 2; (intro w'; go_simp; with_reducible rfl); (simp only [zps]; rfl)
       refine pz_ 3 34 ?_ ?_ (bz 44 15) rfl rfl (by kernel_rfl) (fun _ _ _ h => h) (Or.inl ⟨by rfl, ?_⟩) ?_ ?_; rotate_left 2; (intro w'; go_simp; with_reducible rfl); (simp only [zps]; rfl)
       refine pz_ 4 35 ?_ ?_ (bz 44 31) rfl rfl (by kernel_rfl) (fun _ _ _ h => h) (Or.inl ⟨by rfl, ?_⟩) ?_ ?_; rotate_left 2; (intro w'; go_simp; with_reducible rfl); (simp only [zps]; rfl)
       refine tz_ 5 36 ?_ ?_ (bz 44 63) rfl rfl (by kernel_rfl) (fun _ _ _ h => h) (Or.inl ⟨by rfl, ?_⟩) hHeld ?_ ?_; rotate_left 2; (rintro w' ⟨s0, s1, s2⟩; go_simp; with_reducible rfl); (simp only [zps]; rfl)
       refine pz_ 6 37 ?_ ?_ (bz 44 127) rfl rfl (by kernel_rfl) (fun _ _ _ h => h) (Or.inl ⟨by rfl, ?_⟩) ?_ ?_; rotate_left 2; (intro w'; go_simp; with_reducible rfl); (simp only [zps]; rfl)
       refine pz_ 7 38 ?_ ?_ (bz 44 255) rfl rfl (by kernel_rfl) (fun _ _ _ h => h) (Or.inl ⟨by rfl, ?_⟩) ?_ ?_; rotate_left 2; (intro w'; go_simp; with_reducible rfl); (simp only [zps]; rfl)
       refine pz_ 8 39 ?_ ?_ (bz 44 511) rfl rfl (by kernel_rfl) (fun _ _ _ h => h) (Or.inl ⟨by rfl, ?_⟩) ?_ ?_; rotate_left 2; (intro w'; go_simp; with_reducible rfl); (simp only [zps]; rfl)
       refine pz_ 9 40 ?_ ?_ (bz 44 1023) rfl rfl (by kernel_rfl) (fun _ _ _ h => h) (Or.inl ⟨by rfl, ?_⟩) ?_ ?_; rotate_left 2; (intro w'; go_simp; with_reducible rfl); (simp only [zps]; rfl)
       refine pz_ 10 41 ?_ ?_ (bz 44 2047) rfl rfl (by kernel_rfl) (fun _ _ _ h => h) (Or.inl ⟨by rfl, ?_⟩) ?_ ?_; rotate_left 2; (intro w'; go_simp; with_reducible rfl); (simp only [zps]; rfl)
       refine pz_ 11 42 ?_ ?_ (bz 44 4095) rfl rfl (by kernel_rfl) (fun _ _ _ h => h) (Or.inl ⟨by rfl, ?_⟩) ?_ ?_; rotate_left 2; (intro w'; go_simp; with_reducible rfl); (simp only [zps]; rfl)
       refine tz_ 12 43 ?_ ?_ (bz 44 8191) rfl rfl (by kernel_rfl) (fun _ _ _ h => h) (Or.inl ⟨by rfl, ?_⟩) hHeld ?_ ?_; rotate_left 2; (rintro w' ⟨s0, s1, s2⟩; go_simp; with_reducible rfl); (simp only [zps]; rfl)
       refine pz_ 13 44 ?_ ?_ (bz 44 16383) rfl rfl (by kernel_rfl) (fun _ _ _ h => h) (Or.inl ⟨by rfl, ?_⟩) ?_ ?_; rotate_left 2; (intro w'; go_simp; with_reducible rfl); (simp only [zps]; rfl)
       refine pz_ 14 45 ?_ ?_ (bz 44 32767) rfl rfl (by kernel_rfl) (fun _ _ _ h => h) (Or.inl ⟨by rfl, ?_⟩) ?_ ?_; rotate_left 2; (intro w'; go_simp; with_reducible rfl); (simp only [zps]; rfl)
       refine pz_ 15 46 ?_ ?_ (bz 44 65535) rfl rfl (by kernel_rfl) (fun _ _ _ h => h) (Or.inl ⟨by rfl, ?_⟩) ?_ ?_; rotate_left 2; (intro w'; go_simp; with_reducible rfl); (simp only [zps]; rfl)
       refine tz_ 16 47 ?_ ?_ (bz 44 131071) rfl rfl (by kernel_rfl) (fun _ _ _ h => h) (Or.inl ⟨by rfl, ?_⟩) hHeld ?_ ?_; rotate_left 2; (rintro w' ⟨s0, s1, s2⟩; go_simp; with_reducible rfl); (simp only [zps]; rfl)
       refine pz_ 17 48 ?_ ?_ (bz 44 262143) rfl rfl (by kernel_rfl) (fun _ _ _ h => h) (Or.inl ⟨by rfl, ?_⟩) ?_ ?_; rotate_left 2; (intro w'; go_simp; with_reducible rfl); (simp only [zps]; rfl)
       refine tz_ 18 49 ?_ ?_ (bz 44 524287) rfl rfl (by kernel_rfl) (fun _ _ _ h => h) (Or.inl ⟨by rfl, ?_⟩) hHeld ?_ ?_; rotate_left 2; (rintro w' ⟨s0, s1, s2⟩; go_simp; with_reducible rfl); (simp only [zps]; rfl)
       refine pz_ 19 50 ?_ ?_ (bz 44 1048575) rfl rfl (by kernel_rfl) (fun _ _ _ h => h) (Or.inl ⟨by rfl, ?_⟩) ?_ ?_; rotate_left 2; (intro w'; go_simp; with_reducible rfl); (simp only [zps]; rfl)
       refine pz_ 20 51 ?_ ?_ (bz 44 2097151) rfl rfl (by kernel_rfl) (fun _ _ _ h => h) (Or.inl ⟨by rfl, ?_⟩) ?_ ?_; rotate_left 2; (intro w'; go_simp; with_reducible rfl); (simp only [zps]; rfl)
       refine pz_ 21 52 ?_ ?_ (bz 44 4194303) rfl rfl (by kernel_rfl) (fun _ _ _ h => h) (Or.inl ⟨by rfl, ?_⟩) ?_ ?_; rotate_left 2; (intro w'; go_simp; with_reducible rfl); (simp only [zps]; rfl)
       refine tz_ 22 53 ?_ ?_ (bz 44 8388607) rfl rfl (by kernel_rfl) (fun _ _ _ h => h) (Or.inl ⟨by rfl, ?_⟩) hHeld ?_ ?_; rotate_left 2; (rintro w' ⟨s0, s1, s2⟩; go_simp; with_reducible rfl); (simp only [zps]; rfl)
       refine pz_ 23 54 ?_ ?_ (bz 44 16777215) rfl rfl (by kernel_rfl) (fun _ _ _ h => h) (Or.inl ⟨by rfl, ?_⟩) ?_ ?_; rotate_left 2; (intro w'; go_simp; with_reducible rfl); (simp only [zps]; rfl)
       refine pz_ 24 55 ?_ ?_ (bz 44 33554431) rfl rfl (by kernel_rfl) (fun _ _ _ h => h) (Or.inl ⟨by rfl, ?_⟩) ?_ ?_; rotate_left 2; (intro w'; go_simp; with_reducible rfl); (simp only [zps]; rfl)
       refine pz_ 25 56 ?_ ?_ (bz 44 67108863) rfl rfl (by kernel_rfl) (fun _ _ _ h => h) (Or.inl ⟨by rfl, ?_⟩) ?_ ?_; rotate_left 2; (intro w'; go_simp; with_reducible rfl); (simp only [zps]; rfl)
       refine pz_ 26 57 ?_ ?_ (bz 44 134217727) rfl rfl (by kernel_rfl) (fun _ _ _ h => h) (Or.inl ⟨by rfl, ?_⟩) ?_ ?_; rotate_left 2; (intro w'; go_simp; with_reducible rfl); (simp only [zps]; rfl)
       refine pz_ 27 58 ?_ ?_ (bz 44 268435455) rfl rfl (by kernel_rfl) (fun _ _ _ h => h) (Or.inl ⟨by rfl, ?_⟩) ?_ ?_; rotate_left 2; (intro w'; go_simp; with_reducible rfl); (simp only [zps]; rfl)
       refine pz_ 28 59 ?_ ?_ (bz 44 536870911) rfl rfl (by kernel_rfl) (fun _ _ _ h => h) (Or.inl ⟨by rfl, ?_⟩) ?_ ?_; rotate_left 2; (intro w'; go_simp; with_reducible rfl); (simp only [zps]; rfl)
       refine pz_ 29 60 ?_ ?_ (bz 44 1073741823) rfl rfl (by kernel_rfl) (fun _ _ _ h => h) (Or.inl ⟨by rfl, ?_⟩) ?_ ?_; rotate_left 2; (intro w'; go_simp; with_reducible rfl); (simp only [zps]; rfl)
       refine pz_ 30 61 ?_ ?_ (bz 44 2147483647) rfl rfl (by kernel_rfl) (fun _ _ _ h => h) (Or.inl ⟨by rfl, ?_⟩) ?_ ?_; rotate_left 2; (intro w'; go_simp; with_reducible rfl); (simp only [zps]; rfl)
       refine pz_ 31 62 ?_ ?_ (bz 44 4294967295) rfl rfl (by kernel_rfl) (fun _ _ _ h => h) (Or.inl ⟨by rfl, ?_⟩) ?_ ?_; rotate_left 2; (intro w'; go_simp; with_reducible rfl); (simp only [zps]; rfl)
       refine pz_ 32 63 ?_ ?_ (bz 44 8589934591) rfl rfl (by kernel_rfl) (fun _ _ _ h => h) (Or.inl ⟨by rfl, ?_⟩) ?_ ?_; rotate_left 2; (intro w'; go_simp; with_reducible rfl); (simp only [zps]; rfl)
       refine pz_ 33 64 ?_ ?_ (bz 44 17179869183) rfl rfl (by kernel_rfl) (fun _ _ _ h => h) (Or.inl ⟨by rfl, ?_⟩) ?_ ?_; rotate_left 2; (intro w'; go_simp; with_reducible rfl); (simp only [zps]; rfl)
       refine pz_ 34 65 ?_ ?_ (bz 44 34359738367) rfl rfl (by kernel_rfl) (fun _ _ _ h => h) (Or.inl ⟨by rfl, ?_⟩) ?_ ?_; rotate_left 2; (intro w'; go_simp; with_reducible rfl); (simp only [zps]; rfl)
       refine pz_ 35 66 ?_ ?_ (bz 44 68719476735) rfl rfl (by kernel_rfl) (fun _ _ _ h => h) (Or.inl ⟨by rfl, ?_⟩) ?_ ?_; rotate_left 2; (intro w'; go_simp; with_reducible rfl); (simp only [zps]; rfl)
       refine pz_ 36 67 ?_ ?_ (bz 44 137438953471) rfl rfl (by kernel_rfl) (fun _ _ _ h => h) (Or.inl ⟨by rfl, ?_⟩) ?_ ?_; rotate_left 2; (intro w'; go_simp; with_reducible rfl); (simp only [zps]; rfl)
       refine pz_ 37 68 ?_ ?_ (bz 44 274877906943) rfl rfl (by kernel_rfl) (fun _ _ _ h => h) (Or.inl ⟨by rfl, ?_⟩) ?_ ?_; rotate_left 2; (intro w'; go_simp; with_reducible rfl); (simp only [zps]; rfl)
       refine tz_ 38 69 ?_ ?_ (bz 44 549755813887) rfl rfl (by kernel_rfl) (fun _ _ _ h => h) (Or.inl ⟨by rfl, ?_⟩) hHeld ?_ ?_; rotate_left 2; (rintro w' ⟨s0, s1, s2⟩; go_simp; with_reducible rfl); (simp only [zps]; rfl)
       refine pz_ 39 70 ?_ ?_ (bz 44 1099511627775) rfl rfl (by kernel_rfl) (fun _ _ _ h => h) (Or.inl ⟨by rfl, ?_⟩) ?_ ?_; rotate_left 2; (intro w'; go_simp; with_reducible rfl); (simp only [zps]; rfl)
       refine tz_ 40 71 ?_ ?_ (bz 44 2199023255551) rfl rfl (by kernel_rfl) (fun _ _ _ h => h) (Or.inl ⟨by rfl, ?_⟩) hHeld ?_ ?_; rotate_left 2; (rintro w' ⟨s0, s1, s2⟩; go_simp; with_reducible rfl); (simp only [zps]; rfl)
       refine pz_ 41 72 ?_ ?_ (bz 44 4398046511103) rfl rfl (by kernel_rfl) (fun _ _ _ h => h) (Or.inl ⟨by rfl, ?_⟩) ?_ ?_; rotate_left 2; (intro w'; go_simp; with_reducible rfl); (simp only [zps]; rfl)
       refine pz_ 42 73 ?_ ?_ (bz 44 8796093022207) rfl rfl (by kernel_rfl) (fun _ _ _ h => h) (Or.inl ⟨by rfl, ?_⟩) ?_ ?_; rotate_left 2; (intro w'; go_simp; with_reducible rfl); (simp only [zps]; rfl)
       refine pz_ 43 74 ?_ ?_ (bz 44 17592186044415) rfl rfl (by kernel_rfl) (fun _ _ _ h => h) (Or.inl ⟨by rfl, ?_⟩) ?_ ?_; rotate_left 2; (intro w'; go_simp; with_reducible rfl); (simp only [zps]; rfl)
       refine done_ (by kernel_rfl) ?_
       clear hHeld
       have hil : (i + 1).toNat ≤ O.length := by have := CI.out; omega
       have q1 := eq_true (show 0 ≤ i + 1 by omega)
       have q2 := eq_true (show i + 1 ≤ (O.length : Int) by have := CI.out; omega)
       have hw5 : IntKind.i64.wrap (i + 1) = i + 1 := IntWalk.i64_in _ (by omega)
       obtain ⟨ad', had'⟩ : ∃ ad', (if c3 = (i + 1).toNat then some ad else some (ad.add ((i + 1).toNat * 12))) = some ad' := by split <;> exact ⟨_, rfl⟩
       have CD := Kd.C_drop (c := c3) C4.out hil CL.out
       rw [show (if c3 = (i + 1).toNat then some ad else (some ad).map (fun a : Addr => a.add ((i + 1).toNat * k41.sz))) = some ad' from had'] at CD
       have CD6 := zac.mk (Kd.zbd CD HB6.out)
       clear CD
       go_upto_region 13 with fail
       go_wp2_with fail
       clear had' q1 q2
       have hdl : (O.drop (i + 1).toNat).length = O.length - (i + 1).toNat := List.length_drop
       go_loopw [80] (fun v wr => ∃ j : Int, v = .int .i64 j ∧ zac (0 ≤ j ∧ j ≤ ((O.length - (i + 1).toNat : Nat) : Int)) ∧ zac (Below W6.heap.size W6 wr)) (fun v _ => (O.length - (i + 1).toNat) - (intOf v).toNat)
       case atStart => exact ⟨0, rfl, ⟨⟨Int.le_refl _, by omega⟩⟩, ⟨Below.refl _ _⟩⟩
       case round =>
        obtain ⟨j, rfl, HJ, HB⟩ := hrel
        by_cases hlj : j < ((O.length - (i + 1).toNat : Nat) : Int)
        ·have c80 : decide (j < ((O.length - (i + 1).toNat : Nat) : Int)) = true := decide_eq_true hlj
         have hj0 := HJ.out.1
         have q3 := eq_true hj0
         have q4 := eq_true hlj
         have CJ := zac.mk hlj
         clear hlj
         obtain ⟨y, hy⟩ : ∃ y, y = zbl (O.drop (i + 1).toNat) j := ⟨_, rfl⟩
         obtain ⟨ad, B8, d8, B9, d9, ea, hn0, hn1, hn2, hn3, hn4, hn5, hn6, hn7, hn8, hn9, hn10, hn11, hl8, hi8, hl9, hi9⟩ := at_T41 (Kd.zbd CD6.out HB.out) j HJ.out.1 (by rw [hdl]; exact CJ.out)
         cases ea
         rw [← hy] at hn0 hn1 hn2 hn3 hn4 hn5 hn6 hn7 hn8 hn9 hn10 hn11 hl8 hi8 hl9 hi9
         have TURN := zac.mk (turn_fact HW.out HOE.out HXE.out hy hi0 hj0 CJ.out)
         clear hy hi8 hi9 hl8 hl9
         have BXR := zac.mk ((HB.out.block gx (zbr BX6.out)).trans BX6.out)
         have NB := zac.mk HB.out.size
         have m0 : wr.cell? ⟨gx, 0, none⟩ = some (.int .i64 x.f0.f0) := (zaa BXR.out 0).trans rfl
         have m1 : wr.cell? ⟨gx, 1, none⟩ = some (.int .i64 x.f0.f1) := (zaa BXR.out 1).trans rfl
         have m2 : wr.cell? ⟨gx, 2, none⟩ = some (.string x.f0.f2) := (zaa BXR.out 2).trans rfl
         have m3 : wr.cell? ⟨gx, 3, none⟩ = some (.int .i64 x.f1) := (zaa BXR.out 3).trans rfl
         have m4 : wr.cell? ⟨gx, 4, none⟩ = some (.int .i64 x.f2.f0) := (zaa BXR.out 4).trans rfl
         have m5 : wr.cell? ⟨gx, 5, none⟩ = some (.int .i64 x.f2.f1) := (zaa BXR.out 5).trans rfl
         have m6 : wr.cell? ⟨gx, 6, none⟩ = some (.string x.f2.f2) := (zaa BXR.out 6).trans rfl
         have m7 : wr.cell? ⟨gx, 7, none⟩ = some (.int .i64 x.f3) := (zaa BXR.out 7).trans rfl
         have m8 : wr.cell? ⟨gx, 8, none⟩ = some (.slice A8 x.f4.length c8) := (zaa BXR.out 8).trans rfl
         have m9 : wr.cell? ⟨gx, 9, none⟩ = some (.slice A9 x.f5.length c9) := (zaa BXR.out 9).trans rfl
         have m10 : wr.cell? ⟨gx, 10, none⟩ = some (.int .i64 x.f6) := (zaa BXR.out 10).trans rfl
         have m11 : wr.cell? ⟨gx, 11, none⟩ = some (.int .i64 x.f7) := (zaa BXR.out 11).trans rfl
         go_upto_region 16 with ((with_reducible refine za5 (N := 8) rfl ?_); refine za2 ?hg (N := 8) ?hd (cs := #[.int .i64 0, .int .i64 0, .string (⟨#[]⟩ : ByteArray), .int .i64 0, .int .i64 0, .int .i64 0, .string (⟨#[]⟩ : ByteArray), .int .i64 0, .slice none 0 0, .slice none 0 0, .int .i64 0, .int .i64 0]) (t := 41) ?hr ?_; (case hd => rfl); (case hg => rfl); (case hr => first | (go_simp; done) | (go_simp; rfl)); intro gy hg w2 hbox hb; have HB2 := zac.mk (zaw HB.out HB.out.size hb); have BX2 := zac.mk hbox; have GX := zac.mk (show wr.heap.size ≤ gy from Nat.le_of_eq hg.symm); clear hbox hb hg HB; have hz0 : w2.cell? ⟨gy, 0, none⟩ = some (.int .i64 0) := (zaa BX2.out 0).trans rfl; have hf0 := zag BX2.out 0; have hz1 : w2.cell? ⟨gy, 1, none⟩ = some (.int .i64 0) := (zaa BX2.out 1).trans rfl; have hf1 := zag BX2.out 1; have hz2 : w2.cell? ⟨gy, 2, none⟩ = some (.string (⟨#[]⟩ : ByteArray)) := (zaa BX2.out 2).trans rfl; have hf2 := zag BX2.out 2; have hz3 : w2.cell? ⟨gy, 3, none⟩ = some (.int .i64 0) := (zaa BX2.out 3).trans rfl; have hf3 := zag BX2.out 3; have hz4 : w2.cell? ⟨gy, 4, none⟩ = some (.int .i64 0) := (zaa BX2.out 4).trans rfl; have hf4 := zag BX2.out 4; have hz5 : w2.cell? ⟨gy, 5, none⟩ = some (.int .i64 0) := (zaa BX2.out 5).trans rfl; have hf5 := zag BX2.out 5; have hz6 : w2.cell? ⟨gy, 6, none⟩ = some (.string (⟨#[]⟩ : ByteArray)) := (zaa BX2.out 6).trans rfl; have hf6 := zag BX2.out 6; have hz7 : w2.cell? ⟨gy, 7, none⟩ = some (.int .i64 0) := (zaa BX2.out 7).trans rfl; have hf7 := zag BX2.out 7; have hz8 : w2.cell? ⟨gy, 8, none⟩ = some (.slice none 0 0) := (zaa BX2.out 8).trans rfl; have hf8 := zag BX2.out 8; have hz9 : w2.cell? ⟨gy, 9, none⟩ = some (.slice none 0 0) := (zaa BX2.out 9).trans rfl; have hf9 := zag BX2.out 9; have hz10 : w2.cell? ⟨gy, 10, none⟩ = some (.int .i64 0) := (zaa BX2.out 10).trans rfl; have hf10 := zag BX2.out 10; have hz11 : w2.cell? ⟨gy, 11, none⟩ = some (.int .i64 0) := (zaa BX2.out 11).trans rfl; have hf11 := zag BX2.out 11)
         refine zbs (G := fun W => Code.wp _ _ _ _ W) _ (fun W7 hW7 => ?_)
         have hny : W6.heap.size ≤ gy := Nat.le_trans NB.out GX.out
         have BX7 := zac.mk (show W7.heap[gy]? = some (.cells #[.int .i64 y.f0.f0, .int .i64 y.f0.f1, .string y.f0.f2, .int .i64 y.f1, .int .i64 y.f2.f0, .int .i64 y.f2.f1, .string y.f2.f2, .int .i64 y.f3, .slice B8 y.f4.length d8, .slice B9 y.f5.length d9, .int .i64 y.f6, .int .i64 y.f7] 41 (0, 0)) by rw [hW7]; exact put12' BX2.out)
         have HB7 := zac.mk (show Below W6.heap.size W6 W7 by rw [hW7]; exact belown12 HB2.out hny)
         clear hz0 hf0 hz1 hf1 hz2 hf2 hz3 hf3 hz4 hf4 hz5 hf5 hz6 hf6 hz7 hf7 hz8 hf8 hz9 hf9 hz10 hf10 hz11 hf11 hn0 hn1 hn2 hn3 hn4 hn5 hn6 hn7 hn8 hn9 hn10 hn11
         clear hW7 HB2 BX2 GX hny BXR NB
         have BXR := zac.mk ((HB7.out.block gx (zbr BX6.out)).trans BX6.out)
         have v0 : W7.cell? ⟨gx, 0, none⟩ = some (.int .i64 x.f0.f0) := (zaa BXR.out 0).trans rfl
         have v1 : W7.cell? ⟨gx, 1, none⟩ = some (.int .i64 x.f0.f1) := (zaa BXR.out 1).trans rfl
         have v2 : W7.cell? ⟨gx, 2, none⟩ = some (.string x.f0.f2) := (zaa BXR.out 2).trans rfl
         have v3 : W7.cell? ⟨gx, 3, none⟩ = some (.int .i64 x.f1) := (zaa BXR.out 3).trans rfl
         have v4 : W7.cell? ⟨gx, 4, none⟩ = some (.int .i64 x.f2.f0) := (zaa BXR.out 4).trans rfl
         have v5 : W7.cell? ⟨gx, 5, none⟩ = some (.int .i64 x.f2.f1) := (zaa BXR.out 5).trans rfl
         have v6 : W7.cell? ⟨gx, 6, none⟩ = some (.string x.f2.f2) := (zaa BXR.out 6).trans rfl
         have v7 : W7.cell? ⟨gx, 7, none⟩ = some (.int .i64 x.f3) := (zaa BXR.out 7).trans rfl
         have v8 : W7.cell? ⟨gx, 8, none⟩ = some (.slice A8 x.f4.length c8) := (zaa BXR.out 8).trans rfl
         have v9 : W7.cell? ⟨gx, 9, none⟩ = some (.slice A9 x.f5.length c9) := (zaa BXR.out 9).trans rfl
         have v10 : W7.cell? ⟨gx, 10, none⟩ = some (.int .i64 x.f6) := (zaa BXR.out 10).trans rfl
         have v11 : W7.cell? ⟨gx, 11, none⟩ = some (.int .i64 x.f7) := (zaa BXR.out 11).trans rfl
         have z0 : W7.cell? ⟨gy, 0, none⟩ = some (.int .i64 y.f0.f0) := (zaa BX7.out 0).trans rfl
         have z1 : W7.cell? ⟨gy, 1, none⟩ = some (.int .i64 y.f0.f1) := (zaa BX7.out 1).trans rfl
         have z2 : W7.cell? ⟨gy, 2, none⟩ = some (.string y.f0.f2) := (zaa BX7.out 2).trans rfl
         have z3 : W7.cell? ⟨gy, 3, none⟩ = some (.int .i64 y.f1) := (zaa BX7.out 3).trans rfl
         have z4 : W7.cell? ⟨gy, 4, none⟩ = some (.int .i64 y.f2.f0) := (zaa BX7.out 4).trans rfl
         have z5 : W7.cell? ⟨gy, 5, none⟩ = some (.int .i64 y.f2.f1) := (zaa BX7.out 5).trans rfl
         have z6 : W7.cell? ⟨gy, 6, none⟩ = some (.string y.f2.f2) := (zaa BX7.out 6).trans rfl
         have z7 : W7.cell? ⟨gy, 7, none⟩ = some (.int .i64 y.f3) := (zaa BX7.out 7).trans rfl
         have z8 : W7.cell? ⟨gy, 8, none⟩ = some (.slice B8 y.f4.length d8) := (zaa BX7.out 8).trans rfl
         have z9 : W7.cell? ⟨gy, 9, none⟩ = some (.slice B9 y.f5.length d9) := (zaa BX7.out 9).trans rfl
         have z10 : W7.cell? ⟨gy, 10, none⟩ = some (.int .i64 y.f6) := (zaa BX7.out 10).trans rfl
         have z11 : W7.cell? ⟨gy, 11, none⟩ = some (.int .i64 y.f7) := (zaa BX7.out 11).trans rfl
         obtain ⟨b, hb⟩ : ∃ b, b = ceq x.f0 y.f0 := ⟨_, rfl⟩
         have hb2 : (x.f0.f0 == y.f0.f0 && (x.f0.f1 == y.f0.f1 && (x.f0.f2.toList == y.f0.f2.toList))) = b := hb.symm
         cases b with
         | false =>
          clear hb
          go_wp2_with fail
          have hw7 := IntWalk.wrap64_in (j + 1) (by have := HOL.out; have := CJ.out; omega)
          rw [hw7]
          exact ⟨⟨j + 1, rfl, ⟨⟨by omega, by have := CJ.out; omega⟩⟩, HB7⟩, by show O.length - (i + 1).toNat - (j + 1).toNat < O.length - (i + 1).toNat - j.toNat; have := CJ.out; omega⟩
         | true =>
          have r7 : decide (x.f7 < 0) = false := decide_eq_false (by have := TURN.out hb.symm; omega)
          have r8 : decide (y.f6 ≤ x.f7) = false := decide_eq_false (by have := TURN.out hb.symm; omega)
          clear hb
          go_wp2_with fail
          have hw7 := IntWalk.wrap64_in (j + 1) (by have := HOL.out; have := CJ.out; omega)
          rw [hw7]
          exact ⟨⟨j + 1, rfl, ⟨⟨by omega, by have := CJ.out; omega⟩⟩, HB7⟩, by show O.length - (i + 1).toNat - (j + 1).toNat < O.length - (i + 1).toNat - j.toNat; have := CJ.out; omega⟩
        ·have c80 : decide (j < ((O.length - (i + 1).toNat : Nat) : Int)) = false := decide_eq_false hlj
         clear hlj
         go_wp2_with fail
         exact ⟨⟨i + 1, rfl, ⟨⟨by omega, by have := CI.out; omega⟩⟩, ⟨zaw HB6.out HB6.out.size HB.out⟩⟩, by show O.length - (i + 1).toNat < O.length - i.toNat; have := CI.out; omega⟩
      | false =>
       clear r3
       refine start_ (n := 44) (ds := []) (S := fun w' => w'.cell? ⟨gx, 10, none⟩ = some (.int .i64 x.f6) ∧ w'.cell? ⟨gx, 11, none⟩ = some (.int .i64 x.f7) ∧ w'.cell? ⟨(ad.add ((i.toNat - 1) * 12)).block, (ad.add ((i.toNat - 1) * 12)).off + 10, none⟩ = some (.int .i64 (zbl O (i - 1)).f6)) #[false, false, false, false, false, false, false, false, false, false, false, false, false, false, false, false, false, false, false, false, false, false, false, false, false, false, false, false, false, false, false, false, false, false, false, false, false, false, false, false, false, false, false, false] (by rfl) rfl rfl ⟨y10, y11, hm⟩ (fun hHeld => ?_)
       have BX6 := zac.mk (zan BX5.out)
       have HB6 := zac.mk (zae HB5.out)
       clear BX5 HB5 y0 y1 y2 y3 y4 y5 y6 y7 y8 y9 y10 y11 hm
       generalize W5.drew = W6 at BX6 HB6 hHeld ⊢
       refine pz_ 0 31 ?_ ?_ (bz 44 1) rfl rfl (by kernel_rfl) (fun _ _ _ h => h) (Or.inl ⟨by rfl, ?_⟩) ?_ ?_; rotate_left 2; (intro w'; go_simp; with_reducible rfl); (simp only [zps]; rfl)
       refine tz_ 1 32 ?_ ?_ (bz 44 3) rfl rfl (by kernel_rfl) (fun _ _ _ h => h) (Or.inl ⟨by rfl, ?_⟩) hHeld ?_ ?_; rotate_left 2; (rintro w' ⟨s0, s1, s2⟩; go_simp; with_reducible rfl); (simp only [zps]; rfl)
       refine pz_ 2 33 ?_ ?_ (bz 44 7) rfl rfl (by kernel_rfl) (fun _ _ _ h => h) (Or.inl ⟨by rfl, ?_⟩) ?_ ?_; rotate_left 2; (intro w'; go_simp; with_reducible rfl); (simp only [zps]; rfl)
       refine pz_ 3 34 ?_ ?_ (bz 44 15) rfl rfl (by kernel_rfl) (fun _ _ _ h => h) (Or.inl ⟨by rfl, ?_⟩) ?_ ?_; rotate_left 2; (intro w'; go_simp; with_reducible rfl); (simp only [zps]; rfl)
       refine pz_ 4 35 ?_ ?_ (bz 44 31) rfl rfl (by kernel_rfl) (fun _ _ _ h => h) (Or.inl ⟨by rfl, ?_⟩) ?_ ?_; rotate_left 2; (intro w'; go_simp; with_reducible rfl); (simp only [zps]; rfl)
       refine tz_ 5 36 ?_ ?_ (bz 44 63) rfl rfl (by kernel_rfl) (fun _ _ _ h => h) (Or.inl ⟨by rfl, ?_⟩) hHeld ?_ ?_; rotate_left 2; (rintro w' ⟨s0, s1, s2⟩; go_simp; with_reducible rfl); (simp only [zps]; rfl)
       refine pz_ 6 37 ?_ ?_ (bz 44 127) rfl rfl (by kernel_rfl) (fun _ _ _ h => h) (Or.inl ⟨by rfl, ?_⟩) ?_ ?_; rotate_left 2; (intro w'; go_simp; with_reducible rfl); (simp only [zps]; rfl)
       refine pz_ 7 38 ?_ ?_ (bz 44 255) rfl rfl (by kernel_rfl) (fun _ _ _ h => h) (Or.inl ⟨by rfl, ?_⟩) ?_ ?_; rotate_left 2; (intro w'; go_simp; with_reducible rfl); (simp only [zps]; rfl)
       refine pz_ 8 39 ?_ ?_ (bz 44 511) rfl rfl (by kernel_rfl) (fun _ _ _ h => h) (Or.inl ⟨by rfl, ?_⟩) ?_ ?_; rotate_left 2; (intro w'; go_simp; with_reducible rfl); (simp only [zps]; rfl)
       refine pz_ 9 40 ?_ ?_ (bz 44 1023) rfl rfl (by kernel_rfl) (fun _ _ _ h => h) (Or.inl ⟨by rfl, ?_⟩) ?_ ?_; rotate_left 2; (intro w'; go_simp; with_reducible rfl); (simp only [zps]; rfl)
       refine pz_ 10 41 ?_ ?_ (bz 44 2047) rfl rfl (by kernel_rfl) (fun _ _ _ h => h) (Or.inl ⟨by rfl, ?_⟩) ?_ ?_; rotate_left 2; (intro w'; go_simp; with_reducible rfl); (simp only [zps]; rfl)
       refine pz_ 11 42 ?_ ?_ (bz 44 4095) rfl rfl (by kernel_rfl) (fun _ _ _ h => h) (Or.inl ⟨by rfl, ?_⟩) ?_ ?_; rotate_left 2; (intro w'; go_simp; with_reducible rfl); (simp only [zps]; rfl)
       refine tz_ 12 43 ?_ ?_ (bz 44 8191) rfl rfl (by kernel_rfl) (fun _ _ _ h => h) (Or.inl ⟨by rfl, ?_⟩) hHeld ?_ ?_; rotate_left 2; (rintro w' ⟨s0, s1, s2⟩; go_simp; with_reducible rfl); (simp only [zps]; rfl)
       refine pz_ 13 44 ?_ ?_ (bz 44 16383) rfl rfl (by kernel_rfl) (fun _ _ _ h => h) (Or.inl ⟨by rfl, ?_⟩) ?_ ?_; rotate_left 2; (intro w'; go_simp; with_reducible rfl); (simp only [zps]; rfl)
       refine pz_ 14 45 ?_ ?_ (bz 44 32767) rfl rfl (by kernel_rfl) (fun _ _ _ h => h) (Or.inl ⟨by rfl, ?_⟩) ?_ ?_; rotate_left 2; (intro w'; go_simp; with_reducible rfl); (simp only [zps]; rfl)
       refine pz_ 15 46 undef ?_ (bz 44 65535) rfl rfl (by kernel_rfl) (fun _ _ _ h => h) (Or.inr ⟨by rfl, rfl⟩) ?_ ?_; rotate_left; (simp only [zps]; rfl)
       refine pz_ 16 47 undef ?_ (bz 44 131071) rfl rfl (by kernel_rfl) (fun _ _ _ h => h) (Or.inr ⟨by rfl, rfl⟩) ?_ ?_; rotate_left; (simp only [zps]; rfl)
       refine pz_ 17 48 undef ?_ (bz 44 262143) rfl rfl (by kernel_rfl) (fun _ _ _ h => h) (Or.inr ⟨by rfl, rfl⟩) ?_ ?_; rotate_left; (simp only [zps]; rfl)
       refine pz_ 18 49 undef ?_ (bz 44 524287) rfl rfl (by kernel_rfl) (fun _ _ _ h => h) (Or.inr ⟨by rfl, rfl⟩) ?_ ?_; rotate_left; (simp only [zps]; rfl)
       refine pz_ 19 50 undef ?_ (bz 44 1048575) rfl rfl (by kernel_rfl) (fun _ _ _ h => h) (Or.inr ⟨by rfl, rfl⟩) ?_ ?_; rotate_left; (simp only [zps]; rfl)
       refine pz_ 20 51 undef ?_ (bz 44 2097151) rfl rfl (by kernel_rfl) (fun _ _ _ h => h) (Or.inr ⟨by rfl, rfl⟩) ?_ ?_; rotate_left; (simp only [zps]; rfl)
       refine pz_ 21 52 undef ?_ (bz 44 4194303) rfl rfl (by kernel_rfl) (fun _ _ _ h => h) (Or.inr ⟨by rfl, rfl⟩) ?_ ?_; rotate_left; (simp only [zps]; rfl)
       refine pz_ 22 53 undef ?_ (bz 44 8388607) rfl rfl (by kernel_rfl) (fun _ _ _ h => h) (Or.inr ⟨by rfl, rfl⟩) ?_ ?_; rotate_left; (simp only [zps]; rfl)
       refine pz_ 23 54 undef ?_ (bz 44 16777215) rfl rfl (by kernel_rfl) (fun _ _ _ h => h) (Or.inr ⟨by rfl, rfl⟩) ?_ ?_; rotate_left; (simp only [zps]; rfl)
       refine pz_ 24 55 undef ?_ (bz 44 33554431) rfl rfl (by kernel_rfl) (fun _ _ _ h => h) (Or.inr ⟨by rfl, rfl⟩) ?_ ?_; rotate_left; (simp only [zps]; rfl)
       refine pz_ 25 56 undef ?_ (bz 44 67108863) rfl rfl (by kernel_rfl) (fun _ _ _ h => h) (Or.inr ⟨by rfl, rfl⟩) ?_ ?_; rotate_left; (simp only [zps]; rfl)
       refine pz_ 26 57 undef ?_ (bz 44 134217727) rfl rfl (by kernel_rfl) (fun _ _ _ h => h) (Or.inr ⟨by rfl, rfl⟩) ?_ ?_; rotate_left; (simp only [zps]; rfl)
       refine pz_ 27 58 ?_ ?_ (bz 44 268435455) rfl rfl (by kernel_rfl) (fun _ _ _ h => h) (Or.inl ⟨by rfl, ?_⟩) ?_ ?_; rotate_left 2; (intro w'; go_simp; with_reducible rfl); (simp only [zps]; rfl)
       refine pz_ 28 59 ?_ ?_ (bz 44 536870911) rfl rfl (by kernel_rfl) (fun _ _ _ h => h) (Or.inl ⟨by rfl, ?_⟩) ?_ ?_; rotate_left 2; (intro w'; go_simp; with_reducible rfl); (simp only [zps]; rfl)
       refine pz_ 29 60 ?_ ?_ (bz 44 1073741823) rfl rfl (by kernel_rfl) (fun _ _ _ h => h) (Or.inl ⟨by rfl, ?_⟩) ?_ ?_; rotate_left 2; (intro w'; go_simp; with_reducible rfl); (simp only [zps]; rfl)
       refine pz_ 30 61 ?_ ?_ (bz 44 2147483647) rfl rfl (by kernel_rfl) (fun _ _ _ h => h) (Or.inl ⟨by rfl, ?_⟩) ?_ ?_; rotate_left 2; (intro w'; go_simp; with_reducible rfl); (simp only [zps]; rfl)
       refine pz_ 31 62 ?_ ?_ (bz 44 4294967295) rfl rfl (by kernel_rfl) (fun _ _ _ h => h) (Or.inl ⟨by rfl, ?_⟩) ?_ ?_; rotate_left 2; (intro w'; go_simp; with_reducible rfl); (simp only [zps]; rfl)
       refine pz_ 32 63 ?_ ?_ (bz 44 8589934591) rfl rfl (by kernel_rfl) (fun _ _ _ h => h) (Or.inl ⟨by rfl, ?_⟩) ?_ ?_; rotate_left 2; (intro w'; go_simp; with_reducible rfl); (simp only [zps]; rfl)
       refine pz_ 33 64 ?_ ?_ (bz 44 17179869183) rfl rfl (by kernel_rfl) (fun _ _ _ h => h) (Or.inl ⟨by rfl, ?_⟩) ?_ ?_; rotate_left 2; (intro w'; go_simp; with_reducible rfl); (simp only [zps]; rfl)
       refine pz_ 34 65 ?_ ?_ (bz 44 34359738367) rfl rfl (by kernel_rfl) (fun _ _ _ h => h) (Or.inl ⟨by rfl, ?_⟩) ?_ ?_; rotate_left 2; (intro w'; go_simp; with_reducible rfl); (simp only [zps]; rfl)
       refine pz_ 35 66 ?_ ?_ (bz 44 68719476735) rfl rfl (by kernel_rfl) (fun _ _ _ h => h) (Or.inl ⟨by rfl, ?_⟩) ?_ ?_; rotate_left 2; (intro w'; go_simp; with_reducible rfl); (simp only [zps]; rfl)
       refine pz_ 36 67 ?_ ?_ (bz 44 137438953471) rfl rfl (by kernel_rfl) (fun _ _ _ h => h) (Or.inl ⟨by rfl, ?_⟩) ?_ ?_; rotate_left 2; (intro w'; go_simp; with_reducible rfl); (simp only [zps]; rfl)
       refine pz_ 37 68 ?_ ?_ (bz 44 274877906943) rfl rfl (by kernel_rfl) (fun _ _ _ h => h) (Or.inl ⟨by rfl, ?_⟩) ?_ ?_; rotate_left 2; (intro w'; go_simp; with_reducible rfl); (simp only [zps]; rfl)
       refine tz_ 38 69 ?_ ?_ (bz 44 549755813887) rfl rfl (by kernel_rfl) (fun _ _ _ h => h) (Or.inl ⟨by rfl, ?_⟩) hHeld ?_ ?_; rotate_left 2; (rintro w' ⟨s0, s1, s2⟩; go_simp; with_reducible rfl); (simp only [zps]; rfl)
       refine pz_ 39 70 ?_ ?_ (bz 44 1099511627775) rfl rfl (by kernel_rfl) (fun _ _ _ h => h) (Or.inl ⟨by rfl, ?_⟩) ?_ ?_; rotate_left 2; (intro w'; go_simp; with_reducible rfl); (simp only [zps]; rfl)
       refine tz_ 40 71 ?_ ?_ (bz 44 2199023255551) rfl rfl (by kernel_rfl) (fun _ _ _ h => h) (Or.inl ⟨by rfl, ?_⟩) hHeld ?_ ?_; rotate_left 2; (rintro w' ⟨s0, s1, s2⟩; go_simp; with_reducible rfl); (simp only [zps]; rfl)
       refine pz_ 41 72 ?_ ?_ (bz 44 4398046511103) rfl rfl (by kernel_rfl) (fun _ _ _ h => h) (Or.inl ⟨by rfl, ?_⟩) ?_ ?_; rotate_left 2; (intro w'; go_simp; with_reducible rfl); (simp only [zps]; rfl)
       refine pz_ 42 73 ?_ ?_ (bz 44 8796093022207) rfl rfl (by kernel_rfl) (fun _ _ _ h => h) (Or.inl ⟨by rfl, ?_⟩) ?_ ?_; rotate_left 2; (intro w'; go_simp; with_reducible rfl); (simp only [zps]; rfl)
       refine pz_ 43 74 ?_ ?_ (bz 44 17592186044415) rfl rfl (by kernel_rfl) (fun _ _ _ h => h) (Or.inl ⟨by rfl, ?_⟩) ?_ ?_; rotate_left 2; (intro w'; go_simp; with_reducible rfl); (simp only [zps]; rfl)
       refine done_ (by kernel_rfl) ?_
       clear hHeld
       have hil : (i + 1).toNat ≤ O.length := by have := CI.out; omega
       have q1 := eq_true (show 0 ≤ i + 1 by omega)
       have q2 := eq_true (show i + 1 ≤ (O.length : Int) by have := CI.out; omega)
       have hw5 : IntKind.i64.wrap (i + 1) = i + 1 := IntWalk.i64_in _ (by omega)
       obtain ⟨ad', had'⟩ : ∃ ad', (if c3 = (i + 1).toNat then some ad else some (ad.add ((i + 1).toNat * 12))) = some ad' := by split <;> exact ⟨_, rfl⟩
       have CD := Kd.C_drop (c := c3) C4.out hil CL.out
       rw [show (if c3 = (i + 1).toNat then some ad else (some ad).map (fun a : Addr => a.add ((i + 1).toNat * k41.sz))) = some ad' from had'] at CD
       have CD6 := zac.mk (Kd.zbd CD HB6.out)
       clear CD
       go_upto_region 13 with fail
       go_wp2_with fail
       clear had' q1 q2
       have hdl : (O.drop (i + 1).toNat).length = O.length - (i + 1).toNat := List.length_drop
       go_loopw [80] (fun v wr => ∃ j : Int, v = .int .i64 j ∧ zac (0 ≤ j ∧ j ≤ ((O.length - (i + 1).toNat : Nat) : Int)) ∧ zac (Below W6.heap.size W6 wr)) (fun v _ => (O.length - (i + 1).toNat) - (intOf v).toNat)
       case atStart => exact ⟨0, rfl, ⟨⟨Int.le_refl _, by omega⟩⟩, ⟨Below.refl _ _⟩⟩
       case round =>
        obtain ⟨j, rfl, HJ, HB⟩ := hrel
        by_cases hlj : j < ((O.length - (i + 1).toNat : Nat) : Int)
        ·have c80 : decide (j < ((O.length - (i + 1).toNat : Nat) : Int)) = true := decide_eq_true hlj
         have hj0 := HJ.out.1
         have q3 := eq_true hj0
         have q4 := eq_true hlj
         have CJ := zac.mk hlj
         clear hlj
         obtain ⟨y, hy⟩ : ∃ y, y = zbl (O.drop (i + 1).toNat) j := ⟨_, rfl⟩
         obtain ⟨ad, B8, d8, B9, d9, ea, hn0, hn1, hn2, hn3, hn4, hn5, hn6, hn7, hn8, hn9, hn10, hn11, hl8, hi8, hl9, hi9⟩ := at_T41 (Kd.zbd CD6.out HB.out) j HJ.out.1 (by rw [hdl]; exact CJ.out)
         cases ea
         rw [← hy] at hn0 hn1 hn2 hn3 hn4 hn5 hn6 hn7 hn8 hn9 hn10 hn11 hl8 hi8 hl9 hi9
         have TURN := zac.mk (turn_fact HW.out HOE.out HXE.out hy hi0 hj0 CJ.out)
         clear hy hi8 hi9 hl8 hl9
         have BXR := zac.mk ((HB.out.block gx (zbr BX6.out)).trans BX6.out)
         have NB := zac.mk HB.out.size
         have m0 : wr.cell? ⟨gx, 0, none⟩ = some (.int .i64 x.f0.f0) := (zaa BXR.out 0).trans rfl
         have m1 : wr.cell? ⟨gx, 1, none⟩ = some (.int .i64 x.f0.f1) := (zaa BXR.out 1).trans rfl
         have m2 : wr.cell? ⟨gx, 2, none⟩ = some (.string x.f0.f2) := (zaa BXR.out 2).trans rfl
         have m3 : wr.cell? ⟨gx, 3, none⟩ = some (.int .i64 x.f1) := (zaa BXR.out 3).trans rfl
         have m4 : wr.cell? ⟨gx, 4, none⟩ = some (.int .i64 x.f2.f0) := (zaa BXR.out 4).trans rfl
         have m5 : wr.cell? ⟨gx, 5, none⟩ = some (.int .i64 x.f2.f1) := (zaa BXR.out 5).trans rfl
         have m6 : wr.cell? ⟨gx, 6, none⟩ = some (.string x.f2.f2) := (zaa BXR.out 6).trans rfl
         have m7 : wr.cell? ⟨gx, 7, none⟩ = some (.int .i64 x.f3) := (zaa BXR.out 7).trans rfl
         have m8 : wr.cell? ⟨gx, 8, none⟩ = some (.slice A8 x.f4.length c8) := (zaa BXR.out 8).trans rfl
         have m9 : wr.cell? ⟨gx, 9, none⟩ = some (.slice A9 x.f5.length c9) := (zaa BXR.out 9).trans rfl
         have m10 : wr.cell? ⟨gx, 10, none⟩ = some (.int .i64 x.f6) := (zaa BXR.out 10).trans rfl
         have m11 : wr.cell? ⟨gx, 11, none⟩ = some (.int .i64 x.f7) := (zaa BXR.out 11).trans rfl
         go_upto_region 16 with ((with_reducible refine za5 (N := 8) rfl ?_); refine za2 ?hg (N := 8) ?hd (cs := #[.int .i64 0, .int .i64 0, .string (⟨#[]⟩ : ByteArray), .int .i64 0, .int .i64 0, .int .i64 0, .string (⟨#[]⟩ : ByteArray), .int .i64 0, .slice none 0 0, .slice none 0 0, .int .i64 0, .int .i64 0]) (t := 41) ?hr ?_; (case hd => rfl); (case hg => rfl); (case hr => first | (go_simp; done) | (go_simp; rfl)); intro gy hg w2 hbox hb; have HB2 := zac.mk (zaw HB.out HB.out.size hb); have BX2 := zac.mk hbox; have GX := zac.mk (show wr.heap.size ≤ gy from Nat.le_of_eq hg.symm); clear hbox hb hg HB; have hz0 : w2.cell? ⟨gy, 0, none⟩ = some (.int .i64 0) := (zaa BX2.out 0).trans rfl; have hf0 := zag BX2.out 0; have hz1 : w2.cell? ⟨gy, 1, none⟩ = some (.int .i64 0) := (zaa BX2.out 1).trans rfl; have hf1 := zag BX2.out 1; have hz2 : w2.cell? ⟨gy, 2, none⟩ = some (.string (⟨#[]⟩ : ByteArray)) := (zaa BX2.out 2).trans rfl; have hf2 := zag BX2.out 2; have hz3 : w2.cell? ⟨gy, 3, none⟩ = some (.int .i64 0) := (zaa BX2.out 3).trans rfl; have hf3 := zag BX2.out 3; have hz4 : w2.cell? ⟨gy, 4, none⟩ = some (.int .i64 0) := (zaa BX2.out 4).trans rfl; have hf4 := zag BX2.out 4; have hz5 : w2.cell? ⟨gy, 5, none⟩ = some (.int .i64 0) := (zaa BX2.out 5).trans rfl; have hf5 := zag BX2.out 5; have hz6 : w2.cell? ⟨gy, 6, none⟩ = some (.string (⟨#[]⟩ : ByteArray)) := (zaa BX2.out 6).trans rfl; have hf6 := zag BX2.out 6; have hz7 : w2.cell? ⟨gy, 7, none⟩ = some (.int .i64 0) := (zaa BX2.out 7).trans rfl; have hf7 := zag BX2.out 7; have hz8 : w2.cell? ⟨gy, 8, none⟩ = some (.slice none 0 0) := (zaa BX2.out 8).trans rfl; have hf8 := zag BX2.out 8; have hz9 : w2.cell? ⟨gy, 9, none⟩ = some (.slice none 0 0) := (zaa BX2.out 9).trans rfl; have hf9 := zag BX2.out 9; have hz10 : w2.cell? ⟨gy, 10, none⟩ = some (.int .i64 0) := (zaa BX2.out 10).trans rfl; have hf10 := zag BX2.out 10; have hz11 : w2.cell? ⟨gy, 11, none⟩ = some (.int .i64 0) := (zaa BX2.out 11).trans rfl; have hf11 := zag BX2.out 11)
         refine zbs (G := fun W => Code.wp _ _ _ _ W) _ (fun W7 hW7 => ?_)
         have hny : W6.heap.size ≤ gy := Nat.le_trans NB.out GX.out
         have BX7 := zac.mk (show W7.heap[gy]? = some (.cells #[.int .i64 y.f0.f0, .int .i64 y.f0.f1, .string y.f0.f2, .int .i64 y.f1, .int .i64 y.f2.f0, .int .i64 y.f2.f1, .string y.f2.f2, .int .i64 y.f3, .slice B8 y.f4.length d8, .slice B9 y.f5.length d9, .int .i64 y.f6, .int .i64 y.f7] 41 (0, 0)) by rw [hW7]; exact put12' BX2.out)
         have HB7 := zac.mk (show Below W6.heap.size W6 W7 by rw [hW7]; exact belown12 HB2.out hny)
         clear hz0 hf0 hz1 hf1 hz2 hf2 hz3 hf3 hz4 hf4 hz5 hf5 hz6 hf6 hz7 hf7 hz8 hf8 hz9 hf9 hz10 hf10 hz11 hf11 hn0 hn1 hn2 hn3 hn4 hn5 hn6 hn7 hn8 hn9 hn10 hn11
         clear hW7 HB2 BX2 GX hny BXR NB
         have BXR := zac.mk ((HB7.out.block gx (zbr BX6.out)).trans BX6.out)
         have v0 : W7.cell? ⟨gx, 0, none⟩ = some (.int .i64 x.f0.f0) := (zaa BXR.out 0).trans rfl
         have v1 : W7.cell? ⟨gx, 1, none⟩ = some (.int .i64 x.f0.f1) := (zaa BXR.out 1).trans rfl
         have v2 : W7.cell? ⟨gx, 2, none⟩ = some (.string x.f0.f2) := (zaa BXR.out 2).trans rfl
         have v3 : W7.cell? ⟨gx, 3, none⟩ = some (.int .i64 x.f1) := (zaa BXR.out 3).trans rfl
         have v4 : W7.cell? ⟨gx, 4, none⟩ = some (.int .i64 x.f2.f0) := (zaa BXR.out 4).trans rfl
         have v5 : W7.cell? ⟨gx, 5, none⟩ = some (.int .i64 x.f2.f1) := (zaa BXR.out 5).trans rfl
         have v6 : W7.cell? ⟨gx, 6, none⟩ = some (.string x.f2.f2) := (zaa BXR.out 6).trans rfl
         have v7 : W7.cell? ⟨gx, 7, none⟩ = some (.int .i64 x.f3) := (zaa BXR.out 7).trans rfl
         have v8 : W7.cell? ⟨gx, 8, none⟩ = some (.slice A8 x.f4.length c8) := (zaa BXR.out 8).trans rfl
         have v9 : W7.cell? ⟨gx, 9, none⟩ = some (.slice A9 x.f5.length c9) := (zaa BXR.out 9).trans rfl
         have v10 : W7.cell? ⟨gx, 10, none⟩ = some (.int .i64 x.f6) := (zaa BXR.out 10).trans rfl
         have v11 : W7.cell? ⟨gx, 11, none⟩ = some (.int .i64 x.f7) := (zaa BXR.out 11).trans rfl
         have z0 : W7.cell? ⟨gy, 0, none⟩ = some (.int .i64 y.f0.f0) := (zaa BX7.out 0).trans rfl
         have z1 : W7.cell? ⟨gy, 1, none⟩ = some (.int .i64 y.f0.f1) := (zaa BX7.out 1).trans rfl
         have z2 : W7.cell? ⟨gy, 2, none⟩ = some (.string y.f0.f2) := (zaa BX7.out 2).trans rfl
         have z3 : W7.cell? ⟨gy, 3, none⟩ = some (.int .i64 y.f1) := (zaa BX7.out 3).trans rfl
         have z4 : W7.cell? ⟨gy, 4, none⟩ = some (.int .i64 y.f2.f0) := (zaa BX7.out 4).trans rfl
         have z5 : W7.cell? ⟨gy, 5, none⟩ = some (.int .i64 y.f2.f1) := (zaa BX7.out 5).trans rfl
         have z6 : W7.cell? ⟨gy, 6, none⟩ = some (.string y.f2.f2) := (zaa BX7.out 6).trans rfl
         have z7 : W7.cell? ⟨gy, 7, none⟩ = some (.int .i64 y.f3) := (zaa BX7.out 7).trans rfl
         have z8 : W7.cell? ⟨gy, 8, none⟩ = some (.slice B8 y.f4.length d8) := (zaa BX7.out 8).trans rfl
         have z9 : W7.cell? ⟨gy, 9, none⟩ = some (.slice B9 y.f5.length d9) := (zaa BX7.out 9).trans rfl
         have z10 : W7.cell? ⟨gy, 10, none⟩ = some (.int .i64 y.f6) := (zaa BX7.out 10).trans rfl
         have z11 : W7.cell? ⟨gy, 11, none⟩ = some (.int .i64 y.f7) := (zaa BX7.out 11).trans rfl
         obtain ⟨b, hb⟩ : ∃ b, b = ceq x.f0 y.f0 := ⟨_, rfl⟩
         have hb2 : (x.f0.f0 == y.f0.f0 && (x.f0.f1 == y.f0.f1 && (x.f0.f2.toList == y.f0.f2.toList))) = b := hb.symm
         cases b with
         | false =>
          clear hb
          go_wp2_with fail
          have hw7 := IntWalk.wrap64_in (j + 1) (by have := HOL.out; have := CJ.out; omega)
          rw [hw7]
          exact ⟨⟨j + 1, rfl, ⟨⟨by omega, by have := CJ.out; omega⟩⟩, HB7⟩, by show O.length - (i + 1).toNat - (j + 1).toNat < O.length - (i + 1).toNat - j.toNat; have := CJ.out; omega⟩
         | true =>
          have r7 : decide (x.f7 < 0) = false := decide_eq_false (by have := TURN.out hb.symm; omega)
          have r8 : decide (y.f6 ≤ x.f7) = false := decide_eq_false (by have := TURN.out hb.symm; omega)
          clear hb
          go_wp2_with fail
          have hw7 := IntWalk.wrap64_in (j + 1) (by have := HOL.out; have := CJ.out; omega)
          rw [hw7]
          exact ⟨⟨j + 1, rfl, ⟨⟨by omega, by have := CJ.out; omega⟩⟩, HB7⟩, by show O.length - (i + 1).toNat - (j + 1).toNat < O.length - (i + 1).toNat - j.toNat; have := CJ.out; omega⟩
        ·have c80 : decide (j < ((O.length - (i + 1).toNat : Nat) : Int)) = false := decide_eq_false hlj
         clear hlj
         go_wp2_with fail
         exact ⟨⟨i + 1, rfl, ⟨⟨by omega, by have := CI.out; omega⟩⟩, ⟨zaw HB6.out HB6.out.size HB.out⟩⟩, by show O.length - (i + 1).toNat < O.length - i.toNat; have := CI.out; omega⟩
     ·have r5 : decide (0 < i) = false := decide_eq_false hi1
      cases rb with
      | true =>
       have r31 := (r3 rfl).1
       have r32 := (r3 rfl).2
       clear r3
       refine start_ (n := 44) (ds := []) (S := fun w' => w'.cell? ⟨gx, 10, none⟩ = some (.int .i64 x.f6) ∧ w'.cell? ⟨gx, 11, none⟩ = some (.int .i64 x.f7)) #[false, false, false, false, false, false, false, false, false, false, false, false, false, false, false, false, false, false, false, false, false, false, false, false, false, false, false, false, false, false, false, false, false, false, false, false, false, false, false, false, false, false, false, false] (by rfl) rfl rfl ⟨y10, y11⟩ (fun hHeld => ?_)
       have BX6 := zac.mk (zan BX5.out)
       have HB6 := zac.mk (zae HB5.out)
       clear BX5 HB5 y0 y1 y2 y3 y4 y5 y6 y7 y8 y9 y10 y11
       generalize W5.drew = W6 at BX6 HB6 hHeld ⊢
       refine pz_ 0 31 ?_ ?_ (bz 44 1) rfl rfl (by kernel_rfl) (fun _ _ _ h => h) (Or.inl ⟨by rfl, ?_⟩) ?_ ?_; rotate_left 2; (intro w'; go_simp; with_reducible rfl); (simp only [zps]; rfl)
       refine tz_ 1 32 ?_ ?_ (bz 44 3) rfl rfl (by kernel_rfl) (fun _ _ _ h => h) (Or.inl ⟨by rfl, ?_⟩) hHeld ?_ ?_; rotate_left 2; (rintro w' ⟨s0, s1⟩; go_simp; with_reducible rfl); (simp only [zps]; rfl)
       refine pz_ 2 33 ?_ ?_ (bz 44 7) rfl rfl (by kernel_rfl) (fun _ _ _ h => h) (Or.inl ⟨by rfl, ?_⟩) ?_ ?_; rotate_left 2; (intro w'; go_simp; with_reducible rfl); (simp only [zps]; rfl)
       refine pz_ 3 34 ?_ ?_ (bz 44 15) rfl rfl (by kernel_rfl) (fun _ _ _ h => h) (Or.inl ⟨by rfl, ?_⟩) ?_ ?_; rotate_left 2; (intro w'; go_simp; with_reducible rfl); (simp only [zps]; rfl)
       refine pz_ 4 35 ?_ ?_ (bz 44 31) rfl rfl (by kernel_rfl) (fun _ _ _ h => h) (Or.inl ⟨by rfl, ?_⟩) ?_ ?_; rotate_left 2; (intro w'; go_simp; with_reducible rfl); (simp only [zps]; rfl)
       refine tz_ 5 36 ?_ ?_ (bz 44 63) rfl rfl (by kernel_rfl) (fun _ _ _ h => h) (Or.inl ⟨by rfl, ?_⟩) hHeld ?_ ?_; rotate_left 2; (rintro w' ⟨s0, s1⟩; go_simp; with_reducible rfl); (simp only [zps]; rfl)
       refine pz_ 6 37 ?_ ?_ (bz 44 127) rfl rfl (by kernel_rfl) (fun _ _ _ h => h) (Or.inl ⟨by rfl, ?_⟩) ?_ ?_; rotate_left 2; (intro w'; go_simp; with_reducible rfl); (simp only [zps]; rfl)
       refine pz_ 7 38 ?_ ?_ (bz 44 255) rfl rfl (by kernel_rfl) (fun _ _ _ h => h) (Or.inl ⟨by rfl, ?_⟩) ?_ ?_; rotate_left 2; (intro w'; go_simp; with_reducible rfl); (simp only [zps]; rfl)
       refine pz_ 8 39 ?_ ?_ (bz 44 511) rfl rfl (by kernel_rfl) (fun _ _ _ h => h) (Or.inl ⟨by rfl, ?_⟩) ?_ ?_; rotate_left 2; (intro w'; go_simp; with_reducible rfl); (simp only [zps]; rfl)
       refine pz_ 9 40 ?_ ?_ (bz 44 1023) rfl rfl (by kernel_rfl) (fun _ _ _ h => h) (Or.inl ⟨by rfl, ?_⟩) ?_ ?_; rotate_left 2; (intro w'; go_simp; with_reducible rfl); (simp only [zps]; rfl)
       refine pz_ 10 41 ?_ ?_ (bz 44 2047) rfl rfl (by kernel_rfl) (fun _ _ _ h => h) (Or.inl ⟨by rfl, ?_⟩) ?_ ?_; rotate_left 2; (intro w'; go_simp; with_reducible rfl); (simp only [zps]; rfl)
       refine pz_ 11 42 ?_ ?_ (bz 44 4095) rfl rfl (by kernel_rfl) (fun _ _ _ h => h) (Or.inl ⟨by rfl, ?_⟩) ?_ ?_; rotate_left 2; (intro w'; go_simp; with_reducible rfl); (simp only [zps]; rfl)
       refine tz_ 12 43 ?_ ?_ (bz 44 8191) rfl rfl (by kernel_rfl) (fun _ _ _ h => h) (Or.inl ⟨by rfl, ?_⟩) hHeld ?_ ?_; rotate_left 2; (rintro w' ⟨s0, s1⟩; go_simp; with_reducible rfl); (simp only [zps]; rfl)
       refine pz_ 13 44 ?_ ?_ (bz 44 16383) rfl rfl (by kernel_rfl) (fun _ _ _ h => h) (Or.inl ⟨by rfl, ?_⟩) ?_ ?_; rotate_left 2; (intro w'; go_simp; with_reducible rfl); (simp only [zps]; rfl)
       refine pz_ 14 45 ?_ ?_ (bz 44 32767) rfl rfl (by kernel_rfl) (fun _ _ _ h => h) (Or.inl ⟨by rfl, ?_⟩) ?_ ?_; rotate_left 2; (intro w'; go_simp; with_reducible rfl); (simp only [zps]; rfl)
       refine pz_ 15 46 ?_ ?_ (bz 44 65535) rfl rfl (by kernel_rfl) (fun _ _ _ h => h) (Or.inl ⟨by rfl, ?_⟩) ?_ ?_; rotate_left 2; (intro w'; go_simp; with_reducible rfl); (simp only [zps]; rfl)
       refine tz_ 16 47 ?_ ?_ (bz 44 131071) rfl rfl (by kernel_rfl) (fun _ _ _ h => h) (Or.inl ⟨by rfl, ?_⟩) hHeld ?_ ?_; rotate_left 2; (rintro w' ⟨s0, s1⟩; go_simp; with_reducible rfl); (simp only [zps]; rfl)
       refine pz_ 17 48 ?_ ?_ (bz 44 262143) rfl rfl (by kernel_rfl) (fun _ _ _ h => h) (Or.inl ⟨by rfl, ?_⟩) ?_ ?_; rotate_left 2; (intro w'; go_simp; with_reducible rfl); (simp only [zps]; rfl)
       refine tz_ 18 49 ?_ ?_ (bz 44 524287) rfl rfl (by kernel_rfl) (fun _ _ _ h => h) (Or.inl ⟨by rfl, ?_⟩) hHeld ?_ ?_; rotate_left 2; (rintro w' ⟨s0, s1⟩; go_simp; with_reducible rfl); (simp only [zps]; rfl)
       refine pz_ 19 50 ?_ ?_ (bz 44 1048575) rfl rfl (by kernel_rfl) (fun _ _ _ h => h) (Or.inl ⟨by rfl, ?_⟩) ?_ ?_; rotate_left 2; (intro w'; go_simp; with_reducible rfl); (simp only [zps]; rfl)
       refine pz_ 20 51 ?_ ?_ (bz 44 2097151) rfl rfl (by kernel_rfl) (fun _ _ _ h => h) (Or.inl ⟨by rfl, ?_⟩) ?_ ?_; rotate_left 2; (intro w'; go_simp; with_reducible rfl); (simp only [zps]; rfl)
       refine pz_ 21 52 ?_ ?_ (bz 44 4194303) rfl rfl (by kernel_rfl) (fun _ _ _ h => h) (Or.inl ⟨by rfl, ?_⟩) ?_ ?_; rotate_left 2; (intro w'; go_simp; with_reducible rfl); (simp only [zps]; rfl)
       refine tz_ 22 53 ?_ ?_ (bz 44 8388607) rfl rfl (by kernel_rfl) (fun _ _ _ h => h) (Or.inl ⟨by rfl, ?_⟩) hHeld ?_ ?_; rotate_left 2; (rintro w' ⟨s0, s1⟩; go_simp; with_reducible rfl); (simp only [zps]; rfl)
       refine pz_ 23 54 ?_ ?_ (bz 44 16777215) rfl rfl (by kernel_rfl) (fun _ _ _ h => h) (Or.inl ⟨by rfl, ?_⟩) ?_ ?_; rotate_left 2; (intro w'; go_simp; with_reducible rfl); (simp only [zps]; rfl)
       refine pz_ 24 55 ?_ ?_ (bz 44 33554431) rfl rfl (by kernel_rfl) (fun _ _ _ h => h) (Or.inl ⟨by rfl, ?_⟩) ?_ ?_; rotate_left 2; (intro w'; go_simp; with_reducible rfl); (simp only [zps]; rfl)
       refine pz_ 25 56 ?_ ?_ (bz 44 67108863) rfl rfl (by kernel_rfl) (fun _ _ _ h => h) (Or.inl ⟨by rfl, ?_⟩) ?_ ?_; rotate_left 2; (intro w'; go_simp; with_reducible rfl); (simp only [zps]; rfl)
       refine pz_ 26 57 ?_ ?_ (bz 44 134217727) rfl rfl (by kernel_rfl) (fun _ _ _ h => h) (Or.inl ⟨by rfl, ?_⟩) ?_ ?_; rotate_left 2; (intro w'; go_simp; with_reducible rfl); (simp only [zps]; rfl)
       refine pz_ 27 58 ?_ ?_ (bz 44 268435455) rfl rfl (by kernel_rfl) (fun _ _ _ h => h) (Or.inl ⟨by rfl, ?_⟩) ?_ ?_; rotate_left 2; (intro w'; go_simp; with_reducible rfl); (simp only [zps]; rfl)
       refine pz_ 28 59 ?_ ?_ (bz 44 536870911) rfl rfl (by kernel_rfl) (fun _ _ _ h => h) (Or.inl ⟨by rfl, ?_⟩) ?_ ?_; rotate_left 2; (intro w'; go_simp; with_reducible rfl); (simp only [zps]; rfl)
       refine pz_ 29 60 ?_ ?_ (bz 44 1073741823) rfl rfl (by kernel_rfl) (fun _ _ _ h => h) (Or.inl ⟨by rfl, ?_⟩) ?_ ?_; rotate_left 2; (intro w'; go_simp; with_reducible rfl); (simp only [zps]; rfl)
       refine pz_ 30 61 ?_ ?_ (bz 44 2147483647) rfl rfl (by kernel_rfl) (fun _ _ _ h => h) (Or.inl ⟨by rfl, ?_⟩) ?_ ?_; rotate_left 2; (intro w'; go_simp; with_reducible rfl); (simp only [zps]; rfl)
       refine pz_ 31 62 ?_ ?_ (bz 44 4294967295) rfl rfl (by kernel_rfl) (fun _ _ _ h => h) (Or.inl ⟨by rfl, ?_⟩) ?_ ?_; rotate_left 2; (intro w'; go_simp; with_reducible rfl); (simp only [zps]; rfl)
       refine pz_ 32 63 ?_ ?_ (bz 44 8589934591) rfl rfl (by kernel_rfl) (fun _ _ _ h => h) (Or.inl ⟨by rfl, ?_⟩) ?_ ?_; rotate_left 2; (intro w'; go_simp; with_reducible rfl); (simp only [zps]; rfl)
       refine pz_ 33 64 undef ?_ (bz 44 17179869183) rfl rfl (by kernel_rfl) (fun _ _ _ h => h) (Or.inr ⟨by rfl, rfl⟩) ?_ ?_; rotate_left; (simp only [zps]; rfl)
       refine pz_ 34 65 undef ?_ (bz 44 34359738367) rfl rfl (by kernel_rfl) (fun _ _ _ h => h) (Or.inr ⟨by rfl, rfl⟩) ?_ ?_; rotate_left; (simp only [zps]; rfl)
       refine pz_ 35 66 undef ?_ (bz 44 68719476735) rfl rfl (by kernel_rfl) (fun _ _ _ h => h) (Or.inr ⟨by rfl, rfl⟩) ?_ ?_; rotate_left; (simp only [zps]; rfl)
       refine pz_ 36 67 undef ?_ (bz 44 137438953471) rfl rfl (by kernel_rfl) (fun _ _ _ h => h) (Or.inr ⟨by rfl, rfl⟩) ?_ ?_; rotate_left; (simp only [zps]; rfl)
       refine pz_ 37 68 undef ?_ (bz 44 274877906943) rfl rfl (by kernel_rfl) (fun _ _ _ h => h) (Or.inr ⟨by rfl, rfl⟩) ?_ ?_; rotate_left; (simp only [zps]; rfl)
       refine pz_ 38 69 undef ?_ (bz 44 549755813887) rfl rfl (by kernel_rfl) (fun _ _ _ h => h) (Or.inr ⟨by rfl, rfl⟩) ?_ ?_; rotate_left; (simp only [zps]; rfl)
       refine pz_ 39 70 undef ?_ (bz 44 1099511627775) rfl rfl (by kernel_rfl) (fun _ _ _ h => h) (Or.inr ⟨by rfl, rfl⟩) ?_ ?_; rotate_left; (simp only [zps]; rfl)
       refine pz_ 40 71 undef ?_ (bz 44 2199023255551) rfl rfl (by kernel_rfl) (fun _ _ _ h => h) (Or.inr ⟨by rfl, rfl⟩) ?_ ?_; rotate_left; (simp only [zps]; rfl)
       refine pz_ 41 72 undef ?_ (bz 44 4398046511103) rfl rfl (by kernel_rfl) (fun _ _ _ h => h) (Or.inr ⟨by rfl, rfl⟩) ?_ ?_; rotate_left; (simp only [zps]; rfl)
       refine pz_ 42 73 ?_ ?_ (bz 44 8796093022207) rfl rfl (by kernel_rfl) (fun _ _ _ h => h) (Or.inl ⟨by rfl, ?_⟩) ?_ ?_; rotate_left 2; (intro w'; go_simp; with_reducible rfl); (simp only [zps]; rfl)
       refine pz_ 43 74 ?_ ?_ (bz 44 17592186044415) rfl rfl (by kernel_rfl) (fun _ _ _ h => h) (Or.inl ⟨by rfl, ?_⟩) ?_ ?_; rotate_left 2; (intro w'; go_simp; with_reducible rfl); (simp only [zps]; rfl)
       refine done_ (by kernel_rfl) ?_
       clear hHeld
       have hil : (i + 1).toNat ≤ O.length := by have := CI.out; omega
       have q1 := eq_true (show 0 ≤ i + 1 by omega)
       have q2 := eq_true (show i + 1 ≤ (O.length : Int) by have := CI.out; omega)
       have hw5 : IntKind.i64.wrap (i + 1) = i + 1 := IntWalk.i64_in _ (by omega)
       obtain ⟨ad', had'⟩ : ∃ ad', (if c3 = (i + 1).toNat then some ad else some (ad.add ((i + 1).toNat * 12))) = some ad' := by split <;> exact ⟨_, rfl⟩
       have CD := Kd.C_drop (c := c3) C4.out hil CL.out
       rw [show (if c3 = (i + 1).toNat then some ad else (some ad).map (fun a : Addr => a.add ((i + 1).toNat * k41.sz))) = some ad' from had'] at CD
       have CD6 := zac.mk (Kd.zbd CD HB6.out)
       clear CD
       go_upto_region 13 with fail
       go_wp2_with fail
       clear had' q1 q2
       have hdl : (O.drop (i + 1).toNat).length = O.length - (i + 1).toNat := List.length_drop
       go_loopw [80] (fun v wr => ∃ j : Int, v = .int .i64 j ∧ zac (0 ≤ j ∧ j ≤ ((O.length - (i + 1).toNat : Nat) : Int)) ∧ zac (Below W6.heap.size W6 wr)) (fun v _ => (O.length - (i + 1).toNat) - (intOf v).toNat)
       case atStart => exact ⟨0, rfl, ⟨⟨Int.le_refl _, by omega⟩⟩, ⟨Below.refl _ _⟩⟩
       case round =>
        obtain ⟨j, rfl, HJ, HB⟩ := hrel
        by_cases hlj : j < ((O.length - (i + 1).toNat : Nat) : Int)
        ·have c80 : decide (j < ((O.length - (i + 1).toNat : Nat) : Int)) = true := decide_eq_true hlj
         have hj0 := HJ.out.1
         have q3 := eq_true hj0
         have q4 := eq_true hlj
         have CJ := zac.mk hlj
         clear hlj
         obtain ⟨y, hy⟩ : ∃ y, y = zbl (O.drop (i + 1).toNat) j := ⟨_, rfl⟩
         obtain ⟨ad, B8, d8, B9, d9, ea, hn0, hn1, hn2, hn3, hn4, hn5, hn6, hn7, hn8, hn9, hn10, hn11, hl8, hi8, hl9, hi9⟩ := at_T41 (Kd.zbd CD6.out HB.out) j HJ.out.1 (by rw [hdl]; exact CJ.out)
         cases ea
         rw [← hy] at hn0 hn1 hn2 hn3 hn4 hn5 hn6 hn7 hn8 hn9 hn10 hn11 hl8 hi8 hl9 hi9
         have TURN := zac.mk (turn_fact HW.out HOE.out HXE.out hy hi0 hj0 CJ.out)
         clear hy hi8 hi9 hl8 hl9
         have BXR := zac.mk ((HB.out.block gx (zbr BX6.out)).trans BX6.out)
         have NB := zac.mk HB.out.size
         have m0 : wr.cell? ⟨gx, 0, none⟩ = some (.int .i64 x.f0.f0) := (zaa BXR.out 0).trans rfl
         have m1 : wr.cell? ⟨gx, 1, none⟩ = some (.int .i64 x.f0.f1) := (zaa BXR.out 1).trans rfl
         have m2 : wr.cell? ⟨gx, 2, none⟩ = some (.string x.f0.f2) := (zaa BXR.out 2).trans rfl
         have m3 : wr.cell? ⟨gx, 3, none⟩ = some (.int .i64 x.f1) := (zaa BXR.out 3).trans rfl
         have m4 : wr.cell? ⟨gx, 4, none⟩ = some (.int .i64 x.f2.f0) := (zaa BXR.out 4).trans rfl
         have m5 : wr.cell? ⟨gx, 5, none⟩ = some (.int .i64 x.f2.f1) := (zaa BXR.out 5).trans rfl
         have m6 : wr.cell? ⟨gx, 6, none⟩ = some (.string x.f2.f2) := (zaa BXR.out 6).trans rfl
         have m7 : wr.cell? ⟨gx, 7, none⟩ = some (.int .i64 x.f3) := (zaa BXR.out 7).trans rfl
         have m8 : wr.cell? ⟨gx, 8, none⟩ = some (.slice A8 x.f4.length c8) := (zaa BXR.out 8).trans rfl
         have m9 : wr.cell? ⟨gx, 9, none⟩ = some (.slice A9 x.f5.length c9) := (zaa BXR.out 9).trans rfl
         have m10 : wr.cell? ⟨gx, 10, none⟩ = some (.int .i64 x.f6) := (zaa BXR.out 10).trans rfl
         have m11 : wr.cell? ⟨gx, 11, none⟩ = some (.int .i64 x.f7) := (zaa BXR.out 11).trans rfl
         go_upto_region 16 with ((with_reducible refine za5 (N := 8) rfl ?_); refine za2 ?hg (N := 8) ?hd (cs := #[.int .i64 0, .int .i64 0, .string (⟨#[]⟩ : ByteArray), .int .i64 0, .int .i64 0, .int .i64 0, .string (⟨#[]⟩ : ByteArray), .int .i64 0, .slice none 0 0, .slice none 0 0, .int .i64 0, .int .i64 0]) (t := 41) ?hr ?_; (case hd => rfl); (case hg => rfl); (case hr => first | (go_simp; done) | (go_simp; rfl)); intro gy hg w2 hbox hb; have HB2 := zac.mk (zaw HB.out HB.out.size hb); have BX2 := zac.mk hbox; have GX := zac.mk (show wr.heap.size ≤ gy from Nat.le_of_eq hg.symm); clear hbox hb hg HB; have hz0 : w2.cell? ⟨gy, 0, none⟩ = some (.int .i64 0) := (zaa BX2.out 0).trans rfl; have hf0 := zag BX2.out 0; have hz1 : w2.cell? ⟨gy, 1, none⟩ = some (.int .i64 0) := (zaa BX2.out 1).trans rfl; have hf1 := zag BX2.out 1; have hz2 : w2.cell? ⟨gy, 2, none⟩ = some (.string (⟨#[]⟩ : ByteArray)) := (zaa BX2.out 2).trans rfl; have hf2 := zag BX2.out 2; have hz3 : w2.cell? ⟨gy, 3, none⟩ = some (.int .i64 0) := (zaa BX2.out 3).trans rfl; have hf3 := zag BX2.out 3; have hz4 : w2.cell? ⟨gy, 4, none⟩ = some (.int .i64 0) := (zaa BX2.out 4).trans rfl; have hf4 := zag BX2.out 4; have hz5 : w2.cell? ⟨gy, 5, none⟩ = some (.int .i64 0) := (zaa BX2.out 5).trans rfl; have hf5 := zag BX2.out 5; have hz6 : w2.cell? ⟨gy, 6, none⟩ = some (.string (⟨#[]⟩ : ByteArray)) := (zaa BX2.out 6).trans rfl; have hf6 := zag BX2.out 6; have hz7 : w2.cell? ⟨gy, 7, none⟩ = some (.int .i64 0) := (zaa BX2.out 7).trans rfl; have hf7 := zag BX2.out 7; have hz8 : w2.cell? ⟨gy, 8, none⟩ = some (.slice none 0 0) := (zaa BX2.out 8).trans rfl; have hf8 := zag BX2.out 8; have hz9 : w2.cell? ⟨gy, 9, none⟩ = some (.slice none 0 0) := (zaa BX2.out 9).trans rfl; have hf9 := zag BX2.out 9; have hz10 : w2.cell? ⟨gy, 10, none⟩ = some (.int .i64 0) := (zaa BX2.out 10).trans rfl; have hf10 := zag BX2.out 10; have hz11 : w2.cell? ⟨gy, 11, none⟩ = some (.int .i64 0) := (zaa BX2.out 11).trans rfl; have hf11 := zag BX2.out 11)
         refine zbs (G := fun W => Code.wp _ _ _ _ W) _ (fun W7 hW7 => ?_)
         have hny : W6.heap.size ≤ gy := Nat.le_trans NB.out GX.out
         have BX7 := zac.mk (show W7.heap[gy]? = some (.cells #[.int .i64 y.f0.f0, .int .i64 y.f0.f1, .string y.f0.f2, .int .i64 y.f1, .int .i64 y.f2.f0, .int .i64 y.f2.f1, .string y.f2.f2, .int .i64 y.f3, .slice B8 y.f4.length d8, .slice B9 y.f5.length d9, .int .i64 y.f6, .int .i64 y.f7] 41 (0, 0)) by rw [hW7]; exact put12' BX2.out)
         have HB7 := zac.mk (show Below W6.heap.size W6 W7 by rw [hW7]; exact belown12 HB2.out hny)
         clear hz0 hf0 hz1 hf1 hz2 hf2 hz3 hf3 hz4 hf4 hz5 hf5 hz6 hf6 hz7 hf7 hz8 hf8 hz9 hf9 hz10 hf10 hz11 hf11 hn0 hn1 hn2 hn3 hn4 hn5 hn6 hn7 hn8 hn9 hn10 hn11
         clear hW7 HB2 BX2 GX hny BXR NB
         have BXR := zac.mk ((HB7.out.block gx (zbr BX6.out)).trans BX6.out)
         have v0 : W7.cell? ⟨gx, 0, none⟩ = some (.int .i64 x.f0.f0) := (zaa BXR.out 0).trans rfl
         have v1 : W7.cell? ⟨gx, 1, none⟩ = some (.int .i64 x.f0.f1) := (zaa BXR.out 1).trans rfl
         have v2 : W7.cell? ⟨gx, 2, none⟩ = some (.string x.f0.f2) := (zaa BXR.out 2).trans rfl
         have v3 : W7.cell? ⟨gx, 3, none⟩ = some (.int .i64 x.f1) := (zaa BXR.out 3).trans rfl
         have v4 : W7.cell? ⟨gx, 4, none⟩ = some (.int .i64 x.f2.f0) := (zaa BXR.out 4).trans rfl
         have v5 : W7.cell? ⟨gx, 5, none⟩ = some (.int .i64 x.f2.f1) := (zaa BXR.out 5).trans rfl
         have v6 : W7.cell? ⟨gx, 6, none⟩ = some (.string x.f2.f2) := (zaa BXR.out 6).trans rfl
         have v7 : W7.cell? ⟨gx, 7, none⟩ = some (.int .i64 x.f3) := (zaa BXR.out 7).trans rfl
         have v8 : W7.cell? ⟨gx, 8, none⟩ = some (.slice A8 x.f4.length c8) := (zaa BXR.out 8).trans rfl
         have v9 : W7.cell? ⟨gx, 9, none⟩ = some (.slice A9 x.f5.length c9) := (zaa BXR.out 9).trans rfl
         have v10 : W7.cell? ⟨gx, 10, none⟩ = some (.int .i64 x.f6) := (zaa BXR.out 10).trans rfl
         have v11 : W7.cell? ⟨gx, 11, none⟩ = some (.int .i64 x.f7) := (zaa BXR.out 11).trans rfl
         have z0 : W7.cell? ⟨gy, 0, none⟩ = some (.int .i64 y.f0.f0) := (zaa BX7.out 0).trans rfl
         have z1 : W7.cell? ⟨gy, 1, none⟩ = some (.int .i64 y.f0.f1) := (zaa BX7.out 1).trans rfl
         have z2 : W7.cell? ⟨gy, 2, none⟩ = some (.string y.f0.f2) := (zaa BX7.out 2).trans rfl
         have z3 : W7.cell? ⟨gy, 3, none⟩ = some (.int .i64 y.f1) := (zaa BX7.out 3).trans rfl
         have z4 : W7.cell? ⟨gy, 4, none⟩ = some (.int .i64 y.f2.f0) := (zaa BX7.out 4).trans rfl
         have z5 : W7.cell? ⟨gy, 5, none⟩ = some (.int .i64 y.f2.f1) := (zaa BX7.out 5).trans rfl
         have z6 : W7.cell? ⟨gy, 6, none⟩ = some (.string y.f2.f2) := (zaa BX7.out 6).trans rfl
         have z7 : W7.cell? ⟨gy, 7, none⟩ = some (.int .i64 y.f3) := (zaa BX7.out 7).trans rfl
         have z8 : W7.cell? ⟨gy, 8, none⟩ = some (.slice B8 y.f4.length d8) := (zaa BX7.out 8).trans rfl
         have z9 : W7.cell? ⟨gy, 9, none⟩ = some (.slice B9 y.f5.length d9) := (zaa BX7.out 9).trans rfl
         have z10 : W7.cell? ⟨gy, 10, none⟩ = some (.int .i64 y.f6) := (zaa BX7.out 10).trans rfl
         have z11 : W7.cell? ⟨gy, 11, none⟩ = some (.int .i64 y.f7) := (zaa BX7.out 11).trans rfl
         obtain ⟨b, hb⟩ : ∃ b, b = ceq x.f0 y.f0 := ⟨_, rfl⟩
         have hb2 : (x.f0.f0 == y.f0.f0 && (x.f0.f1 == y.f0.f1 && (x.f0.f2.toList == y.f0.f2.toList))) = b := hb.symm
         cases b with
         | false =>
          clear hb
          go_wp2_with fail
          have hw7 := IntWalk.wrap64_in (j + 1) (by have := HOL.out; have := CJ.out; omega)
          rw [hw7]
          exact ⟨⟨j + 1, rfl, ⟨⟨by omega, by have := CJ.out; omega⟩⟩, HB7⟩, by show O.length - (i + 1).toNat - (j + 1).toNat < O.length - (i + 1).toNat - j.toNat; have := CJ.out; omega⟩
         | true =>
          have r7 : decide (x.f7 < 0) = false := decide_eq_false (by have := TURN.out hb.symm; omega)
          have r8 : decide (y.f6 ≤ x.f7) = false := decide_eq_false (by have := TURN.out hb.symm; omega)
          clear hb
          go_wp2_with fail
          have hw7 := IntWalk.wrap64_in (j + 1) (by have := HOL.out; have := CJ.out; omega)
          rw [hw7]
          exact ⟨⟨j + 1, rfl, ⟨⟨by omega, by have := CJ.out; omega⟩⟩, HB7⟩, by show O.length - (i + 1).toNat - (j + 1).toNat < O.length - (i + 1).toNat - j.toNat; have := CJ.out; omega⟩
        ·have c80 : decide (j < ((O.length - (i + 1).toNat : Nat) : Int)) = false := decide_eq_false hlj
         clear hlj
         go_wp2_with fail
         exact ⟨⟨i + 1, rfl, ⟨⟨by omega, by have := CI.out; omega⟩⟩, ⟨zaw HB6.out HB6.out.size HB.out⟩⟩, by show O.length - (i + 1).toNat < O.length - i.toNat; have := CI.out; omega⟩
      | false =>
       clear r3
       refine start_ (n := 44) (ds := []) (S := fun w' => w'.cell? ⟨gx, 10, none⟩ = some (.int .i64 x.f6) ∧ w'.cell? ⟨gx, 11, none⟩ = some (.int .i64 x.f7)) #[false, false, false, false, false, false, false, false, false, false, false, false, false, false, false, false, false, false, false, false, false, false, false, false, false, false, false, false, false, false, false, false, false, false, false, false, false, false, false, false, false, false, false, false] (by rfl) rfl rfl ⟨y10, y11⟩ (fun hHeld => ?_)
       have BX6 := zac.mk (zan BX5.out)
       have HB6 := zac.mk (zae HB5.out)
       clear BX5 HB5 y0 y1 y2 y3 y4 y5 y6 y7 y8 y9 y10 y11
       generalize W5.drew = W6 at BX6 HB6 hHeld ⊢
       refine pz_ 0 31 ?_ ?_ (bz 44 1) rfl rfl (by kernel_rfl) (fun _ _ _ h => h) (Or.inl ⟨by rfl, ?_⟩) ?_ ?_; rotate_left 2; (intro w'; go_simp; with_reducible rfl); (simp only [zps]; rfl)
       refine tz_ 1 32 ?_ ?_ (bz 44 3) rfl rfl (by kernel_rfl) (fun _ _ _ h => h) (Or.inl ⟨by rfl, ?_⟩) hHeld ?_ ?_; rotate_left 2; (rintro w' ⟨s0, s1⟩; go_simp; with_reducible rfl); (simp only [zps]; rfl)
       refine pz_ 2 33 ?_ ?_ (bz 44 7) rfl rfl (by kernel_rfl) (fun _ _ _ h => h) (Or.inl ⟨by rfl, ?_⟩) ?_ ?_; rotate_left 2; (intro w'; go_simp; with_reducible rfl); (simp only [zps]; rfl)
       refine pz_ 3 34 ?_ ?_ (bz 44 15) rfl rfl (by kernel_rfl) (fun _ _ _ h => h) (Or.inl ⟨by rfl, ?_⟩) ?_ ?_; rotate_left 2; (intro w'; go_simp; with_reducible rfl); (simp only [zps]; rfl)
       refine pz_ 4 35 ?_ ?_ (bz 44 31) rfl rfl (by kernel_rfl) (fun _ _ _ h => h) (Or.inl ⟨by rfl, ?_⟩) ?_ ?_; rotate_left 2; (intro w'; go_simp; with_reducible rfl); (simp only [zps]; rfl)
       refine tz_ 5 36 ?_ ?_ (bz 44 63) rfl rfl (by kernel_rfl) (fun _ _ _ h => h) (Or.inl ⟨by rfl, ?_⟩) hHeld ?_ ?_; rotate_left 2; (rintro w' ⟨s0, s1⟩; go_simp; with_reducible rfl); (simp only [zps]; rfl)
       refine pz_ 6 37 ?_ ?_ (bz 44 127) rfl rfl (by kernel_rfl) (fun _ _ _ h => h) (Or.inl ⟨by rfl, ?_⟩) ?_ ?_; rotate_left 2; (intro w'; go_simp; with_reducible rfl); (simp only [zps]; rfl)
       refine pz_ 7 38 ?_ ?_ (bz 44 255) rfl rfl (by kernel_rfl) (fun _ _ _ h => h) (Or.inl ⟨by rfl, ?_⟩) ?_ ?_; rotate_left 2; (intro w'; go_simp; with_reducible rfl); (simp only [zps]; rfl)
       refine pz_ 8 39 ?_ ?_ (bz 44 511) rfl rfl (by kernel_rfl) (fun _ _ _ h => h) (Or.inl ⟨by rfl, ?_⟩) ?_ ?_; rotate_left 2; (intro w'; go_simp; with_reducible rfl); (simp only [zps]; rfl)
       refine pz_ 9 40 ?_ ?_ (bz 44 1023) rfl rfl (by kernel_rfl) (fun _ _ _ h => h) (Or.inl ⟨by rfl, ?_⟩) ?_ ?_; rotate_left 2; (intro w'; go_simp; with_reducible rfl); (simp only [zps]; rfl)
       refine pz_ 10 41 ?_ ?_ (bz 44 2047) rfl rfl (by kernel_rfl) (fun _ _ _ h => h) (Or.inl ⟨by rfl, ?_⟩) ?_ ?_; rotate_left 2; (intro w'; go_simp; with_reducible rfl); (simp only [zps]; rfl)
       refine pz_ 11 42 ?_ ?_ (bz 44 4095) rfl rfl (by kernel_rfl) (fun _ _ _ h => h) (Or.inl ⟨by rfl, ?_⟩) ?_ ?_; rotate_left 2; (intro w'; go_simp; with_reducible rfl); (simp only [zps]; rfl)
       refine tz_ 12 43 ?_ ?_ (bz 44 8191) rfl rfl (by kernel_rfl) (fun _ _ _ h => h) (Or.inl ⟨by rfl, ?_⟩) hHeld ?_ ?_; rotate_left 2; (rintro w' ⟨s0, s1⟩; go_simp; with_reducible rfl); (simp only [zps]; rfl)
       refine pz_ 13 44 ?_ ?_ (bz 44 16383) rfl rfl (by kernel_rfl) (fun _ _ _ h => h) (Or.inl ⟨by rfl, ?_⟩) ?_ ?_; rotate_left 2; (intro w'; go_simp; with_reducible rfl); (simp only [zps]; rfl)
       refine pz_ 14 45 ?_ ?_ (bz 44 32767) rfl rfl (by kernel_rfl) (fun _ _ _ h => h) (Or.inl ⟨by rfl, ?_⟩) ?_ ?_; rotate_left 2; (intro w'; go_simp; with_reducible rfl); (simp only [zps]; rfl)
       refine pz_ 15 46 undef ?_ (bz 44 65535) rfl rfl (by kernel_rfl) (fun _ _ _ h => h) (Or.inr ⟨by rfl, rfl⟩) ?_ ?_; rotate_left; (simp only [zps]; rfl)
       refine pz_ 16 47 undef ?_ (bz 44 131071) rfl rfl (by kernel_rfl) (fun _ _ _ h => h) (Or.inr ⟨by rfl, rfl⟩) ?_ ?_; rotate_left; (simp only [zps]; rfl)
       refine pz_ 17 48 undef ?_ (bz 44 262143) rfl rfl (by kernel_rfl) (fun _ _ _ h => h) (Or.inr ⟨by rfl, rfl⟩) ?_ ?_; rotate_left; (simp only [zps]; rfl)
       refine pz_ 18 49 undef ?_ (bz 44 524287) rfl rfl (by kernel_rfl) (fun _ _ _ h => h) (Or.inr ⟨by rfl, rfl⟩) ?_ ?_; rotate_left; (simp only [zps]; rfl)
       refine pz_ 19 50 undef ?_ (bz 44 1048575) rfl rfl (by kernel_rfl) (fun _ _ _ h => h) (Or.inr ⟨by rfl, rfl⟩) ?_ ?_; rotate_left; (simp only [zps]; rfl)
       refine pz_ 20 51 undef ?_ (bz 44 2097151) rfl rfl (by kernel_rfl) (fun _ _ _ h => h) (Or.inr ⟨by rfl, rfl⟩) ?_ ?_; rotate_left; (simp only [zps]; rfl)
       refine pz_ 21 52 undef ?_ (bz 44 4194303) rfl rfl (by kernel_rfl) (fun _ _ _ h => h) (Or.inr ⟨by rfl, rfl⟩) ?_ ?_; rotate_left; (simp only [zps]; rfl)
       refine pz_ 22 53 undef ?_ (bz 44 8388607) rfl rfl (by kernel_rfl) (fun _ _ _ h => h) (Or.inr ⟨by rfl, rfl⟩) ?_ ?_; rotate_left; (simp only [zps]; rfl)
       refine pz_ 23 54 undef ?_ (bz 44 16777215) rfl rfl (by kernel_rfl) (fun _ _ _ h => h) (Or.inr ⟨by rfl, rfl⟩) ?_ ?_; rotate_left; (simp only [zps]; rfl)
       refine pz_ 24 55 undef ?_ (bz 44 33554431) rfl rfl (by kernel_rfl) (fun _ _ _ h => h) (Or.inr ⟨by rfl, rfl⟩) ?_ ?_; rotate_left; (simp only [zps]; rfl)
       refine pz_ 25 56 undef ?_ (bz 44 67108863) rfl rfl (by kernel_rfl) (fun _ _ _ h => h) (Or.inr ⟨by rfl, rfl⟩) ?_ ?_; rotate_left; (simp only [zps]; rfl)
       refine pz_ 26 57 undef ?_ (bz 44 134217727) rfl rfl (by kernel_rfl) (fun _ _ _ h => h) (Or.inr ⟨by rfl, rfl⟩) ?_ ?_; rotate_left; (simp only [zps]; rfl)
       refine pz_ 27 58 ?_ ?_ (bz 44 268435455) rfl rfl (by kernel_rfl) (fun _ _ _ h => h) (Or.inl ⟨by rfl, ?_⟩) ?_ ?_; rotate_left 2; (intro w'; go_simp; with_reducible rfl); (simp only [zps]; rfl)
       refine pz_ 28 59 ?_ ?_ (bz 44 536870911) rfl rfl (by kernel_rfl) (fun _ _ _ h => h) (Or.inl ⟨by rfl, ?_⟩) ?_ ?_; rotate_left 2; (intro w'; go_simp; with_reducible rfl); (simp only [zps]; rfl)
       refine pz_ 29 60 ?_ ?_ (bz 44 1073741823) rfl rfl (by kernel_rfl) (fun _ _ _ h => h) (Or.inl ⟨by rfl, ?_⟩) ?_ ?_; rotate_left 2; (intro w'; go_simp; with_reducible rfl); (simp only [zps]; rfl)
       refine pz_ 30 61 ?_ ?_ (bz 44 2147483647) rfl rfl (by kernel_rfl) (fun _ _ _ h => h) (Or.inl ⟨by rfl, ?_⟩) ?_ ?_; rotate_left 2; (intro w'; go_simp; with_reducible rfl); (simp only [zps]; rfl)
       refine pz_ 31 62 ?_ ?_ (bz 44 4294967295) rfl rfl (by kernel_rfl) (fun _ _ _ h => h) (Or.inl ⟨by rfl, ?_⟩) ?_ ?_; rotate_left 2; (intro w'; go_simp; with_reducible rfl); (simp only [zps]; rfl)
       refine pz_ 32 63 ?_ ?_ (bz 44 8589934591) rfl rfl (by kernel_rfl) (fun _ _ _ h => h) (Or.inl ⟨by rfl, ?_⟩) ?_ ?_; rotate_left 2; (intro w'; go_simp; with_reducible rfl); (simp only [zps]; rfl)
       refine pz_ 33 64 undef ?_ (bz 44 17179869183) rfl rfl (by kernel_rfl) (fun _ _ _ h => h) (Or.inr ⟨by rfl, rfl⟩) ?_ ?_; rotate_left; (simp only [zps]; rfl)
       refine pz_ 34 65 undef ?_ (bz 44 34359738367) rfl rfl (by kernel_rfl) (fun _ _ _ h => h) (Or.inr ⟨by rfl, rfl⟩) ?_ ?_; rotate_left; (simp only [zps]; rfl)
       refine pz_ 35 66 undef ?_ (bz 44 68719476735) rfl rfl (by kernel_rfl) (fun _ _ _ h => h) (Or.inr ⟨by rfl, rfl⟩) ?_ ?_; rotate_left; (simp only [zps]; rfl)
       refine pz_ 36 67 undef ?_ (bz 44 137438953471) rfl rfl (by kernel_rfl) (fun _ _ _ h => h) (Or.inr ⟨by rfl, rfl⟩) ?_ ?_; rotate_left; (simp only [zps]; rfl)
       refine pz_ 37 68 undef ?_ (bz 44 274877906943) rfl rfl (by kernel_rfl) (fun _ _ _ h => h) (Or.inr ⟨by rfl, rfl⟩) ?_ ?_; rotate_left; (simp only [zps]; rfl)
       refine pz_ 38 69 undef ?_ (bz 44 549755813887) rfl rfl (by kernel_rfl) (fun _ _ _ h => h) (Or.inr ⟨by rfl, rfl⟩) ?_ ?_; rotate_left; (simp only [zps]; rfl)
       refine pz_ 39 70 undef ?_ (bz 44 1099511627775) rfl rfl (by kernel_rfl) (fun _ _ _ h => h) (Or.inr ⟨by rfl, rfl⟩) ?_ ?_; rotate_left; (simp only [zps]; rfl)
       refine pz_ 40 71 undef ?_ (bz 44 2199023255551) rfl rfl (by kernel_rfl) (fun _ _ _ h => h) (Or.inr ⟨by rfl, rfl⟩) ?_ ?_; rotate_left; (simp only [zps]; rfl)
       refine pz_ 41 72 undef ?_ (bz 44 4398046511103) rfl rfl (by kernel_rfl) (fun _ _ _ h => h) (Or.inr ⟨by rfl, rfl⟩) ?_ ?_; rotate_left; (simp only [zps]; rfl)
       refine pz_ 42 73 ?_ ?_ (bz 44 8796093022207) rfl rfl (by kernel_rfl) (fun _ _ _ h => h) (Or.inl ⟨by rfl, ?_⟩) ?_ ?_; rotate_left 2; (intro w'; go_simp; with_reducible rfl); (simp only [zps]; rfl)
       refine pz_ 43 74 ?_ ?_ (bz 44 17592186044415) rfl rfl (by kernel_rfl) (fun _ _ _ h => h) (Or.inl ⟨by rfl, ?_⟩) ?_ ?_; rotate_left 2; (intro w'; go_simp; with_reducible rfl); (simp only [zps]; rfl)
       refine done_ (by kernel_rfl) ?_
       clear hHeld
       have hil : (i + 1).toNat ≤ O.length := by have := CI.out; omega
       have q1 := eq_true (show 0 ≤ i + 1 by omega)
       have q2 := eq_true (show i + 1 ≤ (O.length : Int) by have := CI.out; omega)
       have hw5 : IntKind.i64.wrap (i + 1) = i + 1 := IntWalk.i64_in _ (by omega)
       obtain ⟨ad', had'⟩ : ∃ ad', (if c3 = (i + 1).toNat then some ad else some (ad.add ((i + 1).toNat * 12))) = some ad' := by split <;> exact ⟨_, rfl⟩
       have CD := Kd.C_drop (c := c3) C4.out hil CL.out
       rw [show (if c3 = (i + 1).toNat then some ad else (some ad).map (fun a : Addr => a.add ((i + 1).toNat * k41.sz))) = some ad' from had'] at CD
       have CD6 := zac.mk (Kd.zbd CD HB6.out)
       clear CD
       go_upto_region 13 with fail
       go_wp2_with fail
       clear had' q1 q2
       have hdl : (O.drop (i + 1).toNat).length = O.length - (i + 1).toNat := List.length_drop
       go_loopw [80] (fun v wr => ∃ j : Int, v = .int .i64 j ∧ zac (0 ≤ j ∧ j ≤ ((O.length - (i + 1).toNat : Nat) : Int)) ∧ zac (Below W6.heap.size W6 wr)) (fun v _ => (O.length - (i + 1).toNat) - (intOf v).toNat)
       case atStart => exact ⟨0, rfl, ⟨⟨Int.le_refl _, by omega⟩⟩, ⟨Below.refl _ _⟩⟩
       case round =>
        obtain ⟨j, rfl, HJ, HB⟩ := hrel
        by_cases hlj : j < ((O.length - (i + 1).toNat : Nat) : Int)
        ·have c80 : decide (j < ((O.length - (i + 1).toNat : Nat) : Int)) = true := decide_eq_true hlj
         have hj0 := HJ.out.1
         have q3 := eq_true hj0
         have q4 := eq_true hlj
         have CJ := zac.mk hlj
         clear hlj
         obtain ⟨y, hy⟩ : ∃ y, y = zbl (O.drop (i + 1).toNat) j := ⟨_, rfl⟩
         obtain ⟨ad, B8, d8, B9, d9, ea, hn0, hn1, hn2, hn3, hn4, hn5, hn6, hn7, hn8, hn9, hn10, hn11, hl8, hi8, hl9, hi9⟩ := at_T41 (Kd.zbd CD6.out HB.out) j HJ.out.1 (by rw [hdl]; exact CJ.out)
         cases ea
         rw [← hy] at hn0 hn1 hn2 hn3 hn4 hn5 hn6 hn7 hn8 hn9 hn10 hn11 hl8 hi8 hl9 hi9
         have TURN := zac.mk (turn_fact HW.out HOE.out HXE.out hy hi0 hj0 CJ.out)
         clear hy hi8 hi9 hl8 hl9
         have BXR := zac.mk ((HB.out.block gx (zbr BX6.out)).trans BX6.out)
         have NB := zac.mk HB.out.size
         have m0 : wr.cell? ⟨gx, 0, none⟩ = some (.int .i64 x.f0.f0) := (zaa BXR.out 0).trans rfl
         have m1 : wr.cell? ⟨gx, 1, none⟩ = some (.int .i64 x.f0.f1) := (zaa BXR.out 1).trans rfl
         have m2 : wr.cell? ⟨gx, 2, none⟩ = some (.string x.f0.f2) := (zaa BXR.out 2).trans rfl
         have m3 : wr.cell? ⟨gx, 3, none⟩ = some (.int .i64 x.f1) := (zaa BXR.out 3).trans rfl
         have m4 : wr.cell? ⟨gx, 4, none⟩ = some (.int .i64 x.f2.f0) := (zaa BXR.out 4).trans rfl
         have m5 : wr.cell? ⟨gx, 5, none⟩ = some (.int .i64 x.f2.f1) := (zaa BXR.out 5).trans rfl
         have m6 : wr.cell? ⟨gx, 6, none⟩ = some (.string x.f2.f2) := (zaa BXR.out 6).trans rfl
         have m7 : wr.cell? ⟨gx, 7, none⟩ = some (.int .i64 x.f3) := (zaa BXR.out 7).trans rfl
         have m8 : wr.cell? ⟨gx, 8, none⟩ = some (.slice A8 x.f4.length c8) := (zaa BXR.out 8).trans rfl
         have m9 : wr.cell? ⟨gx, 9, none⟩ = some (.slice A9 x.f5.length c9) := (zaa BXR.out 9).trans rfl
         have m10 : wr.cell? ⟨gx, 10, none⟩ = some (.int .i64 x.f6) := (zaa BXR.out 10).trans rfl
         have m11 : wr.cell? ⟨gx, 11, none⟩ = some (.int .i64 x.f7) := (zaa BXR.out 11).trans rfl
         go_upto_region 16 with ((with_reducible refine za5 (N := 8) rfl ?_); refine za2 ?hg (N := 8) ?hd (cs := #[.int .i64 0, .int .i64 0, .string (⟨#[]⟩ : ByteArray), .int .i64 0, .int .i64 0, .int .i64 0, .string (⟨#[]⟩ : ByteArray), .int .i64 0, .slice none 0 0, .slice none 0 0, .int .i64 0, .int .i64 0]) (t := 41) ?hr ?_; (case hd => rfl); (case hg => rfl); (case hr => first | (go_simp; done) | (go_simp; rfl)); intro gy hg w2 hbox hb; have HB2 := zac.mk (zaw HB.out HB.out.size hb); have BX2 := zac.mk hbox; have GX := zac.mk (show wr.heap.size ≤ gy from Nat.le_of_eq hg.symm); clear hbox hb hg HB; have hz0 : w2.cell? ⟨gy, 0, none⟩ = some (.int .i64 0) := (zaa BX2.out 0).trans rfl; have hf0 := zag BX2.out 0; have hz1 : w2.cell? ⟨gy, 1, none⟩ = some (.int .i64 0) := (zaa BX2.out 1).trans rfl; have hf1 := zag BX2.out 1; have hz2 : w2.cell? ⟨gy, 2, none⟩ = some (.string (⟨#[]⟩ : ByteArray)) := (zaa BX2.out 2).trans rfl; have hf2 := zag BX2.out 2; have hz3 : w2.cell? ⟨gy, 3, none⟩ = some (.int .i64 0) := (zaa BX2.out 3).trans rfl; have hf3 := zag BX2.out 3; have hz4 : w2.cell? ⟨gy, 4, none⟩ = some (.int .i64 0) := (zaa BX2.out 4).trans rfl; have hf4 := zag BX2.out 4; have hz5 : w2.cell? ⟨gy, 5, none⟩ = some (.int .i64 0) := (zaa BX2.out 5).trans rfl; have hf5 := zag BX2.out 5; have hz6 : w2.cell? ⟨gy, 6, none⟩ = some (.string (⟨#[]⟩ : ByteArray)) := (zaa BX2.out 6).trans rfl; have hf6 := zag BX2.out 6; have hz7 : w2.cell? ⟨gy, 7, none⟩ = some (.int .i64 0) := (zaa BX2.out 7).trans rfl; have hf7 := zag BX2.out 7; have hz8 : w2.cell? ⟨gy, 8, none⟩ = some (.slice none 0 0) := (zaa BX2.out 8).trans rfl; have hf8 := zag BX2.out 8; have hz9 : w2.cell? ⟨gy, 9, none⟩ = some (.slice none 0 0) := (zaa BX2.out 9).trans rfl; have hf9 := zag BX2.out 9; have hz10 : w2.cell? ⟨gy, 10, none⟩ = some (.int .i64 0) := (zaa BX2.out 10).trans rfl; have hf10 := zag BX2.out 10; have hz11 : w2.cell? ⟨gy, 11, none⟩ = some (.int .i64 0) := (zaa BX2.out 11).trans rfl; have hf11 := zag BX2.out 11)
         refine zbs (G := fun W => Code.wp _ _ _ _ W) _ (fun W7 hW7 => ?_)
         have hny : W6.heap.size ≤ gy := Nat.le_trans NB.out GX.out
         have BX7 := zac.mk (show W7.heap[gy]? = some (.cells #[.int .i64 y.f0.f0, .int .i64 y.f0.f1, .string y.f0.f2, .int .i64 y.f1, .int .i64 y.f2.f0, .int .i64 y.f2.f1, .string y.f2.f2, .int .i64 y.f3, .slice B8 y.f4.length d8, .slice B9 y.f5.length d9, .int .i64 y.f6, .int .i64 y.f7] 41 (0, 0)) by rw [hW7]; exact put12' BX2.out)
         have HB7 := zac.mk (show Below W6.heap.size W6 W7 by rw [hW7]; exact belown12 HB2.out hny)
         clear hz0 hf0 hz1 hf1 hz2 hf2 hz3 hf3 hz4 hf4 hz5 hf5 hz6 hf6 hz7 hf7 hz8 hf8 hz9 hf9 hz10 hf10 hz11 hf11 hn0 hn1 hn2 hn3 hn4 hn5 hn6 hn7 hn8 hn9 hn10 hn11
         clear hW7 HB2 BX2 GX hny BXR NB
         have BXR := zac.mk ((HB7.out.block gx (zbr BX6.out)).trans BX6.out)
         have v0 : W7.cell? ⟨gx, 0, none⟩ = some (.int .i64 x.f0.f0) := (zaa BXR.out 0).trans rfl
         have v1 : W7.cell? ⟨gx, 1, none⟩ = some (.int .i64 x.f0.f1) := (zaa BXR.out 1).trans rfl
         have v2 : W7.cell? ⟨gx, 2, none⟩ = some (.string x.f0.f2) := (zaa BXR.out 2).trans rfl
         have v3 : W7.cell? ⟨gx, 3, none⟩ = some (.int .i64 x.f1) := (zaa BXR.out 3).trans rfl
         have v4 : W7.cell? ⟨gx, 4, none⟩ = some (.int .i64 x.f2.f0) := (zaa BXR.out 4).trans rfl
         have v5 : W7.cell? ⟨gx, 5, none⟩ = some (.int .i64 x.f2.f1) := (zaa BXR.out 5).trans rfl
         have v6 : W7.cell? ⟨gx, 6, none⟩ = some (.string x.f2.f2) := (zaa BXR.out 6).trans rfl
         have v7 : W7.cell? ⟨gx, 7, none⟩ = some (.int .i64 x.f3) := (zaa BXR.out 7).trans rfl
         have v8 : W7.cell? ⟨gx, 8, none⟩ = some (.slice A8 x.f4.length c8) := (zaa BXR.out 8).trans rfl
         have v9 : W7.cell? ⟨gx, 9, none⟩ = some (.slice A9 x.f5.length c9) := (zaa BXR.out 9).trans rfl
         have v10 : W7.cell? ⟨gx, 10, none⟩ = some (.int .i64 x.f6) := (zaa BXR.out 10).trans rfl
         have v11 : W7.cell? ⟨gx, 11, none⟩ = some (.int .i64 x.f7) := (zaa BXR.out 11).trans rfl
         have z0 : W7.cell? ⟨gy, 0, none⟩ = some (.int .i64 y.f0.f0) := (zaa BX7.out 0).trans rfl
         have z1 : W7.cell? ⟨gy, 1, none⟩ = some (.int .i64 y.f0.f1) := (zaa BX7.out 1).trans rfl
         have z2 : W7.cell? ⟨gy, 2, none⟩ = some (.string y.f0.f2) := (zaa BX7.out 2).trans rfl
         have z3 : W7.cell? ⟨gy, 3, none⟩ = some (.int .i64 y.f1) := (zaa BX7.out 3).trans rfl
         have z4 : W7.cell? ⟨gy, 4, none⟩ = some (.int .i64 y.f2.f0) := (zaa BX7.out 4).trans rfl
         have z5 : W7.cell? ⟨gy, 5, none⟩ = some (.int .i64 y.f2.f1) := (zaa BX7.out 5).trans rfl
         have z6 : W7.cell? ⟨gy, 6, none⟩ = some (.string y.f2.f2) := (zaa BX7.out 6).trans rfl
         have z7 : W7.cell? ⟨gy, 7, none⟩ = some (.int .i64 y.f3) := (zaa BX7.out 7).trans rfl
         have z8 : W7.cell? ⟨gy, 8, none⟩ = some (.slice B8 y.f4.length d8) := (zaa BX7.out 8).trans rfl
         have z9 : W7.cell? ⟨gy, 9, none⟩ = some (.slice B9 y.f5.length d9) := (zaa BX7.out 9).trans rfl
         have z10 : W7.cell? ⟨gy, 10, none⟩ = some (.int .i64 y.f6) := (zaa BX7.out 10).trans rfl
         have z11 : W7.cell? ⟨gy, 11, none⟩ = some (.int .i64 y.f7) := (zaa BX7.out 11).trans rfl
         obtain ⟨b, hb⟩ : ∃ b, b = ceq x.f0 y.f0 := ⟨_, rfl⟩
         have hb2 : (x.f0.f0 == y.f0.f0 && (x.f0.f1 == y.f0.f1 && (x.f0.f2.toList == y.f0.f2.toList))) = b := hb.symm
         cases b with
         | false =>
          clear hb
          go_wp2_with fail
          have hw7 := IntWalk.wrap64_in (j + 1) (by have := HOL.out; have := CJ.out; omega)
          rw [hw7]
          exact ⟨⟨j + 1, rfl, ⟨⟨by omega, by have := CJ.out; omega⟩⟩, HB7⟩, by show O.length - (i + 1).toNat - (j + 1).toNat < O.length - (i + 1).toNat - j.toNat; have := CJ.out; omega⟩
         | true =>
          have r7 : decide (x.f7 < 0) = false := decide_eq_false (by have := TURN.out hb.symm; omega)
          have r8 : decide (y.f6 ≤ x.f7) = false := decide_eq_false (by have := TURN.out hb.symm; omega)
          clear hb
          go_wp2_with fail
          have hw7 := IntWalk.wrap64_in (j + 1) (by have := HOL.out; have := CJ.out; omega)
          rw [hw7]
          exact ⟨⟨j + 1, rfl, ⟨⟨by omega, by have := CJ.out; omega⟩⟩, HB7⟩, by show O.length - (i + 1).toNat - (j + 1).toNat < O.length - (i + 1).toNat - j.toNat; have := CJ.out; omega⟩
        ·have c80 : decide (j < ((O.length - (i + 1).toNat : Nat) : Int)) = false := decide_eq_false hlj
         clear hlj
         go_wp2_with fail
         exact ⟨⟨i + 1, rfl, ⟨⟨by omega, by have := CI.out; omega⟩⟩, ⟨zaw HB6.out HB6.out.size HB.out⟩⟩, by show O.length - (i + 1).toNat < O.length - i.toNat; have := CI.out; omega⟩
    ·have c2b0 : decide (i < (O.length : Int)) = false := decide_eq_false hlt
     clear hlt
     go_wp2
     go_ret
     exact ⟨rfl, zaw HB4'.out HB4'.out.size HB.out⟩
  ·rw [if_neg ce] at hk3
   have K3 := zac.mk hk3
   have ce0 : (e0 == 0) = false := beq_eq_false_iff_ne.mpr ce
   have ce1 : (e0 != 0) = true := bne_iff_ne.mpr ce
   clear hO he0 hat0 hk3 hg hl60 ce
   go_wp2_with fail
   refine (zbw.calls k3 _ _ l [] e0 at0 _ (za7 HG.out HB2.out) (Kd.zbd HC.out HB2.out) HL.out K3.out).mono ?_
   rintro e w3 ⟨v3, rfl, hS, hb3⟩
   obtain ⟨A3, c3, e3⟩ := Kd.S_slice hS
   subst e3
   have HB3 := zac.mk (zaw HB2.out HB2.out.size hb3)
   clear hS hb3 HB2
   go_wp2_with (((with_reducible refine za5 (N := 4) rfl ?_); refine za2 ?hg (N := 4) ?hd (cs := #[.int .i64 0, .int .i64 0]) (t := 27) ?hr ?_; (case hd => rfl); (case hg => rfl); (case hr => first | (go_simp; done) | (go_simp; rfl)); intro gb hg w4 hbox hb; have HB4 := zac.mk (zaw HB3.out HB3.out.size hb); have BX := zac.mk hbox; have GE := zac.mk (show w.heap.size ≤ gb by rw [hg]; exact HB3.out.size); clear hb hbox hg; have x0 : w4.cell? ⟨gb, 0, none⟩ = some (.int .i64 0) := (zaa BX.out 0).trans rfl; have x1 : w4.cell? ⟨gb, 1, none⟩ = some (.int .i64 0) := (zaa BX.out 1).trans rfl; have f0 := zag BX.out 0; have f1 := zag BX.out 1))
   go_ret
   exact ⟨rfl, (HB4.out.setCell (p := ⟨gb, 0, none⟩) GE.out _).setCell (p := ⟨gb, 1, none⟩) GE.out _⟩
end Go.Proofs.YtikmmigfdchcpaaDoor.PP
