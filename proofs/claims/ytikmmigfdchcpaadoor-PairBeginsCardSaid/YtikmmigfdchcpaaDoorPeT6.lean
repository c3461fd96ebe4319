/-
  Proved: a part of the proof of the claim's statement (text T6 of it).
  Conditions: none of ours.
-/
import Derived.IntWalk
import Derived.Test.YtikmmigfdchcpaaDoorPeQ0
import Derived.Test.YtikmmigfdchcpaaDoorPeL9
import Derived.Test.YtikmmigfdchcpaaDoorPeQ34
import Derived.Test.YtikmmigfdchcpaaDoorPeQ1
import Derived.Test.YtikmmigfdchcpaaDoorPeQ62
import Derived.Test.YtikmmigfdchcpaaDoorPeO
import Derived.Test.YtikmmigfdchcpaaDoorPeK
import Derived.Test.YtikmmigfdchcpaaDoorPeQ51
namespace Go.Proofs.YtikmmigfdchcpaaDoor.PP
open Go.RowKit Go.Proofs.YtikmmigfdchcpaaDoorW.PrintWords Go.Proofs.YtikmmigfdchcpaaDoorW.PrintLast Go.Proofs.YtikmmigfdchcpaaDoorW.PrintMore
set_option linter.unusedVariables false
set_option linter.unusedSimpArgs false
attribute [local go_sem high] eqA38 eqA27
attribute [local go_sem] Instr.field part asAgg
theorem one_cut {n : Nat} {x y : S41} (h : cutB n x = y) (hc : (n : Int) ≤ x.f7) (hy : OkOp y) : ∃ k, zbk.f k x.f0.f0 x.f0.f1 x.f0.f2 x.f1 x.f2.f0 x.f2.f1 x.f2.f2 x.f3 x.f4 [] x.f6 (-1) y.f0.f0 y.f0.f1 y.f0.f2 y.f1 y.f2.f0 y.f2.f1 y.f2.f2 y.f3 y.f4 y.f5 y.f6 y.f7 = some true := by
 rw [cut_yes hc] at h
 subst h
 exact (ev_one _ hy).rounds
theorem one_not {n : Nat} {x y : S41} (h : cutB n x = y) (hc : ¬ (n : Int) ≤ x.f7) (hy : OkOp y) : ∃ k, zbk.f k x.f0.f0 x.f0.f1 x.f0.f2 x.f1 x.f2.f0 x.f2.f1 x.f2.f2 x.f3 x.f4 x.f5 x.f6 x.f7 y.f0.f0 y.f0.f1 y.f0.f2 y.f1 y.f2.f0 y.f2.f1 y.f2.f2 y.f3 y.f4 y.f5 y.f6 y.f7 = some true := by
 rw [cut_no (by omega)] at h
 subst h
 exact (ev_one _ hy).rounds
theorem drop41 {P : List S41} {i : Int} (h0 : 0 ≤ i) (h : i < (P.length : Int)) : P.drop i.toNat = zbx P i :: P.drop (i + 1).toNat := by
 have hl : i.toNat < P.length := by omega
 rw [List.drop_eq_getElem_cons hl, show (i + 1).toNat = i.toNat + 1 by omega]
 simp only [zbx, List.getD_eq_getElem?_getD, List.getElem?_eq_getElem hl, Option.getD_some]
theorem head41 {O : List S41} {a : Int} (h0 : 0 ≤ a) (h : a < (O.length : Int)) : (O.drop a.toNat)[0]? = some (zbx O a) := by
 rw [drop41 h0 h]
 rfl
set_option maxHeartbeats 16000000 in
set_option maxRecDepth 100000 in
theorem pairBegins_any (w : World) (A : Option Addr) (c : Nat) (l : List S47) (cut : Int) (hcut : 0 ≤ cut ∧ cut ≤ 255) (hG : Glob w) (hC : Kd.C k47 w A l.length l) (hc : l.length ≤ c) (hd : DataOk l) :
  Calls Tryd.prog 6 #[.slice A l.length c, .int .u8 cut] w fun e w' => e = .returned (.bool true) ∧ Below w.heap.size w w' := by
 have hu27 := Tryd.underlying27
 have hu38 := Tryd.underlying38
 have hu41 := Tryd.underlying41
 have hu47 := Tryd.underlying47
 obtain ⟨k1, hk1⟩ := ev_wakes.rounds
 obtain ⟨b, hb, hlen⟩ := ev_great l hd
 obtain ⟨k2, hk2⟩ := hb.rounds
 have HG := zab.mk hG
 have HC := zab.mk hC
 have HL := zab.mk hc
 have K1 := zab.mk hk1
 have K2 := zab.mk hk2
 have HD := zab.mk hd
 have HLEN := zab.mk hlen
 clear hG hC hc hk1 hk2 hb hd hlen
 go_enter Tryd.func6, Tryd.ntmps6
 go_wp2_with fail
 refine (zbm.calls k1 true w HG.out K1.out).mono ?_
 rintro e w1 ⟨rfl, hb1⟩
 have HB1 := zab.mk hb1
 clear hb1
 go_wp2_with fail
 refine (za0.calls k2 _ _ l 60 b _ (Kd.za9 HC.out HB1.out) HL.out K2.out).mono ?_
 rintro e w2 ⟨rfl, hb2⟩
 have HB2 := zab.mk (za1 HB1.out HB1.out.size hb2)
 clear hb2 HB1
 cases b with
 | true =>
  go_wp2_with fail
  go_ret
  exact ⟨rfl, HB2.out⟩
 | false =>
  have hl60 := HLEN.out rfl
  have hg : Good l := ⟨by omega, HD.out⟩
  obtain ⟨k3, hk3⟩ := (ev_check l hg).rounds
  obtain ⟨e0, at0, hO⟩ : ∃ e0 at0, chkS l l.length 0 = (e0, at0) := ⟨_, _, rfl⟩
  rw [hO] at hk3
  have K3 := zab.mk hk3
  have HCH := zab.mk hO
  have HGO := zab.mk hg
  have H60 := zab.mk hl60
  clear hO hk3 hg
  by_cases hl0 : l.length = 0
  ·have r0 : ((l.length : Int) == 0) = true := beq_iff_eq.mpr (by omega)
   clear hl0 hl60
   go_wp2_with fail
   go_ret
   exact ⟨rfl, HB2.out⟩
  have r0 : ((l.length : Int) == 0) = false := beq_eq_false_iff_ne.mpr (by omega)
  clear hl0 hl60
  go_wp2_with fail
  refine (zb5.calls k3 _ _ l e0 at0 _ (za7 HG.out HB2.out) (Kd.za9 HC.out HB2.out) HL.out K3.out).mono ?_
  rintro e w3 ⟨rfl, hb3⟩
  have HB3 := zab.mk (za1 HB2.out HB2.out.size hb3)
  clear hb3 HB2
  by_cases ce : e0 = 0
  ·subst ce
   obtain ⟨n, hn⟩ : ∃ n : Nat, Int.tmod cut ((l.length : Int) + 1) = (n : Int) := ⟨_, (Int.toNat_of_nonneg (Int.tmod_nonneg _ hcut.1)).symm⟩
   have hn1 : n ≤ l.length := by have := Int.tmod_lt_of_pos cut (show 0 < (l.length : Int) + 1 by omega); omega
   have HN := zab.mk hn1
   obtain ⟨hp1, hp2, hbeg⟩ := begins HGO.out (by rw [HCH.out]) hn1
   obtain ⟨atn, hatn⟩ : ∃ a, a = (chkS (l.take n) (l.take n).length 0).2 := ⟨_, rfl⟩
   obtain ⟨atl, hatl⟩ : ∃ a, a = (chkS l l.length 0).2 := ⟨_, rfl⟩
   obtain ⟨P, hP⟩ : ∃ P, P = opsF (l.take n) n 0 := ⟨_, rfl⟩
   obtain ⟨O, hO⟩ : ∃ O, O = opsF l l.length 0 := ⟨_, rfl⟩
   rw [← hatn, ← hP] at hp1
   rw [← hatl, ← hO] at hp2
   obtain ⟨k4, hk4⟩ := (ev_opers (l.take n) (good_take HGO.out)).rounds
   obtain ⟨k5, hk5⟩ := (ev_opers l HGO.out).rounds
   rw [hp1] at hk4
   rw [hp2] at hk5
   have hb := hbeg
   rw [← hP, ← hO] at hb
   have K4 := zab.mk hk4
   have K5 := zab.mk hk5
   have BEG := zab.mk hb
   clear hp1 hp2 hbeg hatn hatl hP hO hk4 hk5 hb
   have hcut0 := hcut.1
   have hcut1 := hcut.2
   have hcv : IntKind.i64.wrap cut = cut := IntWalk.i64_in _ (by omega)
   have hl60 := H60.out
   have hw1 : IntKind.i64.wrap ((l.length : Int) + 1) = (l.length : Int) + 1 := IntWalk.i64_in _ (by omega)
   have hw2 : IntKind.i64.wrap (n : Int) = n := IntWalk.i64_in _ (by omega)
   have hz : ((l.length : Int) + 1 = 0) = False := eq_false (by omega)
   have hz2 : ((l.length : Int) + 1 == 0) = false := beq_eq_false_iff_ne.mpr (by omega)
   have p1 := eq_true (show (n : Int) ≤ l.length by omega)
   have p2 := eq_true (show (n : Int) ≤ c by have := HL.out; omega)
   have hlT : (l.take n).length = n := by rw [List.length_take]; omega
   go_wp2_with fail
   refine calls_of_args (show #[Value.slice A n c] = #[.slice A (l.take n).length c] by rw [hlT]) ?_
   refine (zby.calls k4 _ _ (l.take n) P 0 atn _ (za7 HG.out HB3.out) (Kd.C_take (Kd.za9 HC.out HB3.out) HN.out) (by rw [hlT]; have := HL.out; have := HN.out; omega) K4.out).mono ?_
   rintro e w4 ⟨v4, rfl, hS, hb4⟩
   obtain ⟨A4, c4, e4⟩ := Kd.S_slice hS
   subst e4
   have CP := zab.mk (Kd.S_reads' hS).2.2
   have HB4 := zab.mk (za1 HB3.out HB3.out.size hb4)
   clear hS hb4 HB3
   go_upto_region 7 with (((with_reducible refine za2 (N := 7) rfl ?_); refine zay ?hg (N := 7) ?hd (cs := #[.int .i64 0, .int .i64 0]) (t := 27) ?hr ?_; (case hd => rfl); (case hg => rfl); (case hr => first | (go_simp; done) | (go_simp; rfl)); intro g1 hg w5 hbox hb; have BX := zab.mk hbox; have GE2 := zab.mk (show w4.heap.size ≤ g1 by rw [hg]; exact Nat.le_refl _); have HBX := zab.mk hb; clear hb hbox hg; have x0 : w5.cell? ⟨g1, 0, none⟩ = some (.int .i64 0) := (zae BX.out 0).trans rfl; have x1 : w5.cell? ⟨g1, 1, none⟩ = some (.int .i64 0) := (zae BX.out 1).trans rfl; have f0 := zah BX.out 0; have f1 := zah BX.out 1))
   refine zb0 (G := fun W => Code.wp _ _ _ _ W) _ (fun W5 hW5 => ?_)
   have BX5 := zab.mk (show W5.heap[g1]? = some (.cells #[.int .i64 0, .int .i64 atn] 27 (0, 0)) by rw [hW5]; exact zaz (cs := #[.int .i64 0, .int .i64 0]) (zaz (cs := #[.int .i64 0, .int .i64 0]) (cs' := #[.int .i64 0, .int .i64 0]) BX.out 0 (.int .i64 0) rfl) 1 (.int .i64 atn) rfl)
   have HX5 := zab.mk (show Below w4.heap.size w4 W5 by rw [hW5]; exact (HBX.out.setCell (p := ⟨g1, 0, none⟩) GE2.out _).setCell (p := ⟨g1, 1, none⟩) GE2.out _)
   clear hW5 x0 x1 f0 f1 BX HBX GE2
   replace CP := zab.mk (Kd.za9 CP.out HX5.out)
   replace HB4 := zab.mk (za1 HB4.out HB4.out.size HX5.out)
   clear HX5
   go_wp2_with fail
   refine (zby.calls k5 _ _ l O 0 atl _ (za7 HG.out HB4.out) (Kd.za9 HC.out HB4.out) HL.out K5.out).mono ?_
   rintro e w6 ⟨v6, rfl, hS, hb6⟩
   obtain ⟨A6, c6, e6⟩ := Kd.S_slice hS
   subst e6
   have CO := zab.mk (Kd.S_reads' hS).2.2
   replace CP := zab.mk (Kd.za9 CP.out hb6)
   replace BX5 := zab.mk (zaw BX5.out hb6)
   replace HB4 := zab.mk (za1 HB4.out HB4.out.size hb6)
   clear hS hb6
   go_upto_region 8 with (((with_reducible refine za2 (N := 9) rfl ?_); refine zay ?hg (N := 9) ?hd (cs := #[.int .i64 0, .int .i64 0]) (t := 27) ?hr ?_; (case hd => rfl); (case hg => rfl); (case hr => first | (go_simp; done) | (go_simp; rfl)); intro g2 hg w7 hbox hb; have BX := zab.mk hbox; have GE2 := zab.mk (show w6.heap.size ≤ g2 by rw [hg]; exact Nat.le_refl _); have HBX := zab.mk hb; clear hb hbox hg; have x0 : w7.cell? ⟨g2, 0, none⟩ = some (.int .i64 0) := (zae BX.out 0).trans rfl; have x1 : w7.cell? ⟨g2, 1, none⟩ = some (.int .i64 0) := (zae BX.out 1).trans rfl; have f0 := zah BX.out 0; have f1 := zah BX.out 1))
   refine zb0 (G := fun W => Code.wp _ _ _ _ W) _ (fun W7 hW5 => ?_)
   have BX7 := zab.mk (show W7.heap[g2]? = some (.cells #[.int .i64 0, .int .i64 atl] 27 (0, 0)) by rw [hW5]; exact zaz (cs := #[.int .i64 0, .int .i64 0]) (zaz (cs := #[.int .i64 0, .int .i64 0]) (cs' := #[.int .i64 0, .int .i64 0]) BX.out 0 (.int .i64 0) rfl) 1 (.int .i64 atl) rfl)
   have HX7 := zab.mk (show Below w6.heap.size w6 W7 by rw [hW5]; exact (HBX.out.setCell (p := ⟨g2, 0, none⟩) GE2.out _).setCell (p := ⟨g2, 1, none⟩) GE2.out _)
   clear hW5 x0 x1 f0 f1 BX HBX GE2
   replace CP := zab.mk (Kd.za9 CP.out HX7.out)
   replace CO := zab.mk (Kd.za9 CO.out HX7.out)
   replace BX5 := zab.mk (zaw BX5.out HX7.out)
   replace HB4 := zab.mk (za1 HB4.out HB4.out.size HX7.out)
   clear HX7
   have hc1 : W7.cell? ⟨g1, 0, none⟩ = some (.int .i64 0) := (zae BX5.out 0).trans rfl
   have hc2 : W7.cell? ⟨g2, 0, none⟩ = some (.int .i64 0) := (zae BX7.out 0).trans rfl
   have OMX := zab.mk (Kd.C_max CO.out)
   have PMX := zab.mk (Kd.C_max CP.out)
   go_upto_region 10 with fail
   clear hc1 hc2 BX5 BX7
   go_wp2_with fail
   go_loopw [57, 10] (fun v57 v10 wr => ∃ i a : Int, v57 = .int .i64 i ∧ v10 = .int .i64 a ∧ zab (0 ≤ i ∧ i ≤ (P.length : Int)) ∧ zab (0 ≤ a ∧ a ≤ (O.length : Int)) ∧ zab (Beg n (P.drop i.toNat) (O.drop a.toNat)) ∧ zab (Below W7.heap.size W7 wr)) (fun v57 _ _ => P.length - (intOf v57).toNat)
   case atStart => exact ⟨0, 0, rfl, rfl, ⟨⟨Int.le_refl _, by omega⟩⟩, ⟨⟨Int.le_refl _, by omega⟩⟩, BEG, ⟨Below.refl _ _⟩⟩
   case round =>
    clear BEG
    obtain ⟨i, a, rfl, rfl, HI, HA, BEG, HB⟩ := hrel
    by_cases hlt : i < (P.length : Int)
    ·have ci : decide (i < (P.length : Int)) = true := decide_eq_true hlt
     have hi0 := HI.out.1
     have p0 := eq_true hi0
     have q0 := eq_true hlt
     have CI := zab.mk hlt
     have ha0 := HA.out.1
     have s0 := eq_true ha0
     have BG := BEG.out
     rw [drop41 hi0 hlt] at BG
     obtain ⟨y, hy⟩ : ∃ y, y = zbx P i := ⟨_, rfl⟩
     obtain ⟨ad, B8, d8, B9, d9, ea, hm0, hm1, hm2, hm3, hm4, hm5, hm6, hm7, hm8, hm9, hm10, hm11, hl8, hi8, hl9, hi9⟩ := at_T41 CP.out i hi0 CI.out
     cases ea
     rw [← hy] at BG hm0 hm1 hm2 hm3 hm4 hm5 hm6 hm7 hm8 hm9 hm10 hm11 hl8 hi8 hl9 hi9
     have hn0 := zaf HB.out hm0
     have hn1 := zaf HB.out hm1
     have hn2 := zaf HB.out hm2
     have hn3 := zaf HB.out hm3
     have hn4 := zaf HB.out hm4
     have hn5 := zaf HB.out hm5
     have hn6 := zaf HB.out hm6
     have hn7 := zaf HB.out hm7
     have hn8 := zaf HB.out hm8
     have hn9 := zaf HB.out hm9
     have hn10 := zaf HB.out hm10
     have hn11 := zaf HB.out hm11
     clear hm0 hm1 hm2 hm3 hm4 hm5 hm6 hm7 hm8 hm9 hm10 hm11
     have YOK := zab.mk (show OkOp y from ⟨Kd.C_max hi8, Kd.C_max hi9⟩)
     have Y8 := zab.mk hi8
     have YL8 := zab.mk hl8
     have Y9 := zab.mk hi9
     have YL9 := zab.mk hl9
     clear hy hi8 hi9 hl8 hl9 hlt
     have BG := zab.mk BG
     have NB := zab.mk HB.out.size
     go_upto_region 14 with ((with_reducible refine za2 (N := 12) rfl ?_); refine zay ?hg (N := 12) ?hd (cs := #[.int .i64 0, .int .i64 0, .string (⟨#[]⟩ : ByteArray), .int .i64 0, .int .i64 0, .int .i64 0, .string (⟨#[]⟩ : ByteArray), .int .i64 0, .slice none 0 0, .slice none 0 0, .int .i64 0, .int .i64 0]) (t := 41) ?hr ?_; (case hd => rfl); (case hg => rfl); (case hr => first | (go_simp; done) | (go_simp; rfl)); intro gy hg w2 hbox hb; have HB2 := zab.mk (za1 HB.out HB.out.size hb); have BX2 := zab.mk hbox; have GX := zab.mk (show wr.heap.size ≤ gy from Nat.le_of_eq hg.symm); clear hbox hb hg HB; have hz0 : w2.cell? ⟨gy, 0, none⟩ = some (.int .i64 0) := (zae BX2.out 0).trans rfl; have hf0 := zah BX2.out 0; have hz1 : w2.cell? ⟨gy, 1, none⟩ = some (.int .i64 0) := (zae BX2.out 1).trans rfl; have hf1 := zah BX2.out 1; have hz2 : w2.cell? ⟨gy, 2, none⟩ = some (.string (⟨#[]⟩ : ByteArray)) := (zae BX2.out 2).trans rfl; have hf2 := zah BX2.out 2; have hz3 : w2.cell? ⟨gy, 3, none⟩ = some (.int .i64 0) := (zae BX2.out 3).trans rfl; have hf3 := zah BX2.out 3; have hz4 : w2.cell? ⟨gy, 4, none⟩ = some (.int .i64 0) := (zae BX2.out 4).trans rfl; have hf4 := zah BX2.out 4; have hz5 : w2.cell? ⟨gy, 5, none⟩ = some (.int .i64 0) := (zae BX2.out 5).trans rfl; have hf5 := zah BX2.out 5; have hz6 : w2.cell? ⟨gy, 6, none⟩ = some (.string (⟨#[]⟩ : ByteArray)) := (zae BX2.out 6).trans rfl; have hf6 := zah BX2.out 6; have hz7 : w2.cell? ⟨gy, 7, none⟩ = some (.int .i64 0) := (zae BX2.out 7).trans rfl; have hf7 := zah BX2.out 7; have hz8 : w2.cell? ⟨gy, 8, none⟩ = some (.slice none 0 0) := (zae BX2.out 8).trans rfl; have hf8 := zah BX2.out 8; have hz9 : w2.cell? ⟨gy, 9, none⟩ = some (.slice none 0 0) := (zae BX2.out 9).trans rfl; have hf9 := zah BX2.out 9; have hz10 : w2.cell? ⟨gy, 10, none⟩ = some (.int .i64 0) := (zae BX2.out 10).trans rfl; have hf10 := zah BX2.out 10; have hz11 : w2.cell? ⟨gy, 11, none⟩ = some (.int .i64 0) := (zae BX2.out 11).trans rfl; have hf11 := zah BX2.out 11)
     refine zb0 (G := fun W => Code.wp _ _ _ _ W) _ (fun W8 hW8 => ?_)
     have hny : W7.heap.size ≤ gy := Nat.le_trans NB.out GX.out
     have BY := zab.mk (show W8.heap[gy]? = some (.cells #[.int .i64 y.f0.f0, .int .i64 y.f0.f1, .string y.f0.f2, .int .i64 y.f1, .int .i64 y.f2.f0, .int .i64 y.f2.f1, .string y.f2.f2, .int .i64 y.f3, .slice B8 y.f4.length d8, .slice B9 y.f5.length d9, .int .i64 y.f6, .int .i64 y.f7] 41 (0, 0)) by rw [hW8]; exact put12' BX2.out)
     have HB8 := zab.mk (show Below W7.heap.size W7 W8 by rw [hW8]; exact belown12 HB2.out hny)
     clear hz0 hf0 hz1 hf1 hz2 hf2 hz3 hf3 hz4 hf4 hz5 hf5 hz6 hf6 hz7 hf7 hz8 hf8 hz9 hf9 hz10 hf10 hz11 hf11 hn0 hn1 hn2 hn3 hn4 hn5 hn6 hn7 hn8 hn9 hn10 hn11
     clear hW8 HB2 BX2 GX hny NB
     have y10 : W8.cell? ⟨gy, 10, none⟩ = some (.int .i64 y.f6) := (zae BY.out 10).trans rfl
     rcases BG.out with ⟨bg1, bg2, bg3⟩ | ⟨x, B, bg1, bg2, bg3, bg4⟩
     ·have BREST := zab.mk bg3
      have r7 : (y.f7 != -1) = false := by rw [bg1]; rfl
      by_cases hla : a < (O.length : Int)
      ·have ca : decide (a < (O.length : Int)) = true := decide_eq_true hla
       have s1 := eq_true hla
       obtain ⟨x, hx⟩ : ∃ x, x = zbx O a := ⟨_, rfl⟩
       obtain ⟨ad2, A8, c8, A9, c9, ea, hx0, hx1, hx2, hx3, hx4, hx5, hx6, hx7, hx8, hx9, hx10, hx11, hl8, hi8, hl9, hi9⟩ := at_T41 CO.out a ha0 hla
       cases ea
       rw [← hx] at hx0 hx1 hx2 hx3 hx4 hx5 hx6 hx7 hx8 hx9 hx10 hx11
       have ne := bg2 x (by rw [hx]; exact head41 ha0 hla)
       have r6 : (x.f6 == y.f6) = false := beq_eq_false_iff_ne.mpr ne
       have xm := zaf HB8.out hx10
       clear hx0 hx1 hx2 hx3 hx4 hx5 hx6 hx7 hx8 hx9 hx10 hx11 hx hl8 hi8 hl9 hi9 bg1 bg2 bg3 hla ne BG
       refine start_ (n := 14) (ds := []) (S := fun w' => w'.cell? ⟨gy, 10, none⟩ = some (.int .i64 y.f6) ∧ w'.cell? ⟨(ad2.add (a.toNat * 12)).block, (ad2.add (a.toNat * 12)).off + 10, none⟩ = some (.int .i64 x.f6)) #[false, false, false, false, false, false, false, false, false, false, false, false, false, false] (by rfl) rfl rfl ⟨y10, xm⟩ (fun hHeld => ?_)
       have BY9 := zab.mk (zam BY.out)
       have HB9 := zab.mk (zad HB8.out)
       clear BY HB8 y10 xm
       generalize W8.drew = W9 at BY9 HB9 hHeld ⊢
       refine pz_ 0 61 ?_ ?_ (bz 14 1) rfl rfl (by kernel_rfl) (fun _ _ _ h => h) (Or.inl ⟨by rfl, ?_⟩) ?_ ?_; rotate_left 2; (intro w'; go_simp; with_reducible rfl); (simp only [zps]; rfl)
       refine pz_ 1 62 ?_ ?_ (bz 14 3) rfl rfl (by kernel_rfl) (fun _ _ _ h => h) (Or.inl ⟨by rfl, ?_⟩) ?_ ?_; rotate_left 2; (intro w'; go_simp; with_reducible rfl); (simp only [zps]; rfl)
       refine pz_ 2 63 ?_ ?_ (bz 14 7) rfl rfl (by kernel_rfl) (fun _ _ _ h => h) (Or.inl ⟨by rfl, ?_⟩) ?_ ?_; rotate_left 2; (intro w'; go_simp; with_reducible rfl); (simp only [zps]; rfl)
       refine pz_ 3 64 ?_ ?_ (bz 14 15) rfl rfl (by kernel_rfl) (fun _ _ _ h => h) (Or.inl ⟨by rfl, ?_⟩) ?_ ?_; rotate_left 2; (intro w'; go_simp; with_reducible rfl); (simp only [zps]; rfl)
       refine pz_ 4 65 ?_ ?_ (bz 14 31) rfl rfl (by kernel_rfl) (fun _ _ _ h => h) (Or.inl ⟨by rfl, ?_⟩) ?_ ?_; rotate_left 2; (intro w'; go_simp; with_reducible rfl); (simp only [zps]; rfl)
       refine pz_ 5 66 ?_ ?_ (bz 14 63) rfl rfl (by kernel_rfl) (fun _ _ _ h => h) (Or.inl ⟨by rfl, ?_⟩) ?_ ?_; rotate_left 2; (intro w'; go_simp; with_reducible rfl); (simp only [zps]; rfl)
       refine pz_ 6 67 ?_ ?_ (bz 14 127) rfl rfl (by kernel_rfl) (fun _ _ _ h => h) (Or.inl ⟨by rfl, ?_⟩) ?_ ?_; rotate_left 2; (intro w'; go_simp; with_reducible rfl); (simp only [zps]; rfl)
       refine pz_ 7 68 ?_ ?_ (bz 14 255) rfl rfl (by kernel_rfl) (fun _ _ _ h => h) (Or.inl ⟨by rfl, ?_⟩) ?_ ?_; rotate_left 2; (intro w'; go_simp; with_reducible rfl); (simp only [zps]; rfl)
       refine pz_ 8 69 ?_ ?_ (bz 14 511) rfl rfl (by kernel_rfl) (fun _ _ _ h => h) (Or.inl ⟨by rfl, ?_⟩) ?_ ?_; rotate_left 2; (intro w'; go_simp; with_reducible rfl); (simp only [zps]; rfl)
       refine tz_ 9 70 ?_ ?_ (bz 14 1023) rfl rfl (by kernel_rfl) (fun _ _ _ h => h) (Or.inl ⟨by rfl, ?_⟩) hHeld ?_ ?_; rotate_left 2; (rintro w' ⟨s0, s1⟩; go_simp; with_reducible rfl); (simp only [zps]; rfl)
       refine pz_ 10 71 ?_ ?_ (bz 14 2047) rfl rfl (by kernel_rfl) (fun _ _ _ h => h) (Or.inl ⟨by rfl, ?_⟩) ?_ ?_; rotate_left 2; (intro w'; go_simp; with_reducible rfl); (simp only [zps]; rfl)
       refine tz_ 11 72 ?_ ?_ (bz 14 4095) rfl rfl (by kernel_rfl) (fun _ _ _ h => h) (Or.inl ⟨by rfl, ?_⟩) hHeld ?_ ?_; rotate_left 2; (rintro w' ⟨s0, s1⟩; go_simp; with_reducible rfl); (simp only [zps]; rfl)
       refine pz_ 12 73 ?_ ?_ (bz 14 8191) rfl rfl (by kernel_rfl) (fun _ _ _ h => h) (Or.inl ⟨by rfl, ?_⟩) ?_ ?_; rotate_left 2; (intro w'; go_simp; with_reducible rfl); (simp only [zps]; rfl)
       refine pz_ 13 74 ?_ ?_ (bz 14 16383) rfl rfl (by kernel_rfl) (fun _ _ _ h => h) (Or.inl ⟨by rfl, ?_⟩) ?_ ?_; rotate_left 2; (intro w'; go_simp; with_reducible rfl); (simp only [zps]; rfl)
       refine done_ (by kernel_rfl) ?_
       clear hHeld
       have y11 : W9.cell? ⟨gy, 11, none⟩ = some (.int .i64 y.f7) := (zae BY9.out 11).trans rfl
       have hw8 : IntKind.i64.wrap (i + 1) = i + 1 := IntWalk.i64_in _ (by have := PMX.out; have := CI.out; omega)
       have hw9 := IntWalk.wrap64_in (i + 1) (by have := PMX.out; have := CI.out; omega)
       go_wp2_with fail
       first | rw [hw9] | skip
       exact ⟨⟨i + 1, a, rfl, rfl, ⟨⟨by omega, by have := CI.out; omega⟩⟩, ⟨⟨by omega, by have := HA.out; omega⟩⟩, BREST, HB9⟩, by show P.length - (i + 1).toNat < P.length - i.toNat; have := CI.out; omega⟩
      ·have ca : decide (a < (O.length : Int)) = false := decide_eq_false hla
       clear bg1 bg2 bg3 hla BG
       refine start_ (n := 14) (ds := []) (S := fun w' => w'.cell? ⟨gy, 10, none⟩ = some (.int .i64 y.f6)) #[false, false, false, false, false, false, false, false, false, false, false, false, false, false] (by rfl) rfl rfl y10 (fun hHeld => ?_)
       have BY9 := zab.mk (zam BY.out)
       have HB9 := zab.mk (zad HB8.out)
       clear BY HB8 y10
       generalize W8.drew = W9 at BY9 HB9 hHeld ⊢
       refine pz_ 0 61 ?_ ?_ (bz 14 1) rfl rfl (by kernel_rfl) (fun _ _ _ h => h) (Or.inl ⟨by rfl, ?_⟩) ?_ ?_; rotate_left 2; (intro w'; go_simp; with_reducible rfl); (simp only [zps]; rfl)
       refine pz_ 1 62 ?_ ?_ (bz 14 3) rfl rfl (by kernel_rfl) (fun _ _ _ h => h) (Or.inl ⟨by rfl, ?_⟩) ?_ ?_; rotate_left 2; (intro w'; go_simp; with_reducible rfl); (simp only [zps]; rfl)
       refine pz_ 2 63 ?_ ?_ (bz 14 7) rfl rfl (by kernel_rfl) (fun _ _ _ h => h) (Or.inl ⟨by rfl, ?_⟩) ?_ ?_; rotate_left 2; (intro w'; go_simp; with_reducible rfl); (simp only [zps]; rfl)
       refine pz_ 3 64 ?_ ?_ (bz 14 15) rfl rfl (by kernel_rfl) (fun _ _ _ h => h) (Or.inl ⟨by rfl, ?_⟩) ?_ ?_; rotate_left 2; (intro w'; go_simp; with_reducible rfl); (simp only [zps]; rfl)
       refine pz_ 4 65 ?_ ?_ (bz 14 31) rfl rfl (by kernel_rfl) (fun _ _ _ h => h) (Or.inl ⟨by rfl, ?_⟩) ?_ ?_; rotate_left 2; (intro w'; go_simp; with_reducible rfl); (simp only [zps]; rfl)
       refine pz_ 5 66 undef ?_ (bz 14 63) rfl rfl (by kernel_rfl) (fun _ _ _ h => h) (Or.inr ⟨by rfl, rfl⟩) ?_ ?_; rotate_left; (simp only [zps]; rfl)
       refine pz_ 6 67 undef ?_ (bz 14 127) rfl rfl (by kernel_rfl) (fun _ _ _ h => h) (Or.inr ⟨by rfl, rfl⟩) ?_ ?_; rotate_left; (simp only [zps]; rfl)
       refine pz_ 7 68 undef ?_ (bz 14 255) rfl rfl (by kernel_rfl) (fun _ _ _ h => h) (Or.inr ⟨by rfl, rfl⟩) ?_ ?_; rotate_left; (simp only [zps]; rfl)
       refine pz_ 8 69 undef ?_ (bz 14 511) rfl rfl (by kernel_rfl) (fun _ _ _ h => h) (Or.inr ⟨by rfl, rfl⟩) ?_ ?_; rotate_left; (simp only [zps]; rfl)
       refine pz_ 9 70 undef ?_ (bz 14 1023) rfl rfl (by kernel_rfl) (fun _ _ _ h => h) (Or.inr ⟨by rfl, rfl⟩) ?_ ?_; rotate_left; (simp only [zps]; rfl)
       refine pz_ 10 71 undef ?_ (bz 14 2047) rfl rfl (by kernel_rfl) (fun _ _ _ h => h) (Or.inr ⟨by rfl, rfl⟩) ?_ ?_; rotate_left; (simp only [zps]; rfl)
       refine pz_ 11 72 undef ?_ (bz 14 4095) rfl rfl (by kernel_rfl) (fun _ _ _ h => h) (Or.inr ⟨by rfl, rfl⟩) ?_ ?_; rotate_left; (simp only [zps]; rfl)
       refine pz_ 12 73 undef ?_ (bz 14 8191) rfl rfl (by kernel_rfl) (fun _ _ _ h => h) (Or.inr ⟨by rfl, rfl⟩) ?_ ?_; rotate_left; (simp only [zps]; rfl)
       refine pz_ 13 74 ?_ ?_ (bz 14 16383) rfl rfl (by kernel_rfl) (fun _ _ _ h => h) (Or.inl ⟨by rfl, ?_⟩) ?_ ?_; rotate_left 2; (intro w'; go_simp; with_reducible rfl); (simp only [zps]; rfl)
       refine done_ (by kernel_rfl) ?_
       clear hHeld
       have y11 : W9.cell? ⟨gy, 11, none⟩ = some (.int .i64 y.f7) := (zae BY9.out 11).trans rfl
       have hw8 : IntKind.i64.wrap (i + 1) = i + 1 := IntWalk.i64_in _ (by have := PMX.out; have := CI.out; omega)
       have hw9 := IntWalk.wrap64_in (i + 1) (by have := PMX.out; have := CI.out; omega)
       go_wp2_with fail
       first | rw [hw9] | skip
       exact ⟨⟨i + 1, a, rfl, rfl, ⟨⟨by omega, by have := CI.out; omega⟩⟩, ⟨⟨by omega, by have := HA.out; omega⟩⟩, BREST, HB9⟩, by show P.length - (i + 1).toNat < P.length - i.toNat; have := CI.out; omega⟩
     ·have hla : a < (O.length : Int) := by
       rcases Int.lt_or_le a (O.length : Int) with h | h
       ·exact h
       ·rw [List.drop_eq_nil_of_le (by omega)] at bg1
        cases bg1
      have ca : decide (a < (O.length : Int)) = true := decide_eq_true hla
      have s1 := eq_true hla
      have CA := zab.mk hla
      rw [drop41 ha0 hla] at bg1
      injection bg1 with hx hB
      subst hB
      have hx := hx.symm
      have BREST := zab.mk bg4
      have CUT := zab.mk bg3
      have r6 : (x.f6 == y.f6) = true := beq_iff_eq.mpr bg2
      obtain ⟨ad2, A8, c8, A9, c9, ea, hx0, hx1, hx2, hx3, hx4, hx5, hx6, hx7, hx8, hx9, hx10, hx11, hl8, hi8, hl9, hi9⟩ := at_T41 CO.out a ha0 hla
      cases ea
      rw [← hx] at hx0 hx1 hx2 hx3 hx4 hx5 hx6 hx7 hx8 hx9 hx10 hx11 hl8 hi8 hl9 hi9
      have X8 := zab.mk hi8
      have XL8 := zab.mk hl8
      have X9 := zab.mk hi9
      have XL9 := zab.mk hl9
      have xm := zaf HB8.out hx10
      clear hx hl8 hi8 hl9 hi9 bg2 bg3 bg4 hla BG
      refine start_ (n := 14) (ds := []) (S := fun w' => w'.cell? ⟨gy, 10, none⟩ = some (.int .i64 y.f6) ∧ w'.cell? ⟨(ad2.add (a.toNat * 12)).block, (ad2.add (a.toNat * 12)).off + 10, none⟩ = some (.int .i64 x.f6)) #[false, false, false, false, false, false, false, false, false, false, false, false, false, false] (by rfl) rfl rfl ⟨y10, xm⟩ (fun hHeld => ?_)
      have BY9 := zab.mk (zam BY.out)
      have HB9 := zab.mk (zad HB8.out)
      clear BY HB8 y10 xm
      generalize W8.drew = W9 at BY9 HB9 hHeld ⊢
      refine pz_ 0 61 ?_ ?_ (bz 14 1) rfl rfl (by kernel_rfl) (fun _ _ _ h => h) (Or.inl ⟨by rfl, ?_⟩) ?_ ?_; rotate_left 2; (intro w'; go_simp; with_reducible rfl); (simp only [zps]; rfl)
      refine pz_ 1 62 ?_ ?_ (bz 14 3) rfl rfl (by kernel_rfl) (fun _ _ _ h => h) (Or.inl ⟨by rfl, ?_⟩) ?_ ?_; rotate_left 2; (intro w'; go_simp; with_reducible rfl); (simp only [zps]; rfl)
      refine pz_ 2 63 ?_ ?_ (bz 14 7) rfl rfl (by kernel_rfl) (fun _ _ _ h => h) (Or.inl ⟨by rfl, ?_⟩) ?_ ?_; rotate_left 2; (intro w'; go_simp; with_reducible rfl); (simp only [zps]; rfl)
      refine pz_ 3 64 ?_ ?_ (bz 14 15) rfl rfl (by kernel_rfl) (fun _ _ _ h => h) (Or.inl ⟨by rfl, ?_⟩) ?_ ?_; rotate_left 2; (intro w'; go_simp; with_reducible rfl); (simp only [zps]; rfl)
      refine pz_ 4 65 ?_ ?_ (bz 14 31) rfl rfl (by kernel_rfl) (fun _ _ _ h => h) (Or.inl ⟨by rfl, ?_⟩) ?_ ?_; rotate_left 2; (intro w'; go_simp; with_reducible rfl); (simp only [zps]; rfl)
      refine pz_ 5 66 ?_ ?_ (bz 14 63) rfl rfl (by kernel_rfl) (fun _ _ _ h => h) (Or.inl ⟨by rfl, ?_⟩) ?_ ?_; rotate_left 2; (intro w'; go_simp; with_reducible rfl); (simp only [zps]; rfl)
      refine pz_ 6 67 ?_ ?_ (bz 14 127) rfl rfl (by kernel_rfl) (fun _ _ _ h => h) (Or.inl ⟨by rfl, ?_⟩) ?_ ?_; rotate_left 2; (intro w'; go_simp; with_reducible rfl); (simp only [zps]; rfl)
      refine pz_ 7 68 ?_ ?_ (bz 14 255) rfl rfl (by kernel_rfl) (fun _ _ _ h => h) (Or.inl ⟨by rfl, ?_⟩) ?_ ?_; rotate_left 2; (intro w'; go_simp; with_reducible rfl); (simp only [zps]; rfl)
      refine pz_ 8 69 ?_ ?_ (bz 14 511) rfl rfl (by kernel_rfl) (fun _ _ _ h => h) (Or.inl ⟨by rfl, ?_⟩) ?_ ?_; rotate_left 2; (intro w'; go_simp; with_reducible rfl); (simp only [zps]; rfl)
      refine tz_ 9 70 ?_ ?_ (bz 14 1023) rfl rfl (by kernel_rfl) (fun _ _ _ h => h) (Or.inl ⟨by rfl, ?_⟩) hHeld ?_ ?_; rotate_left 2; (rintro w' ⟨s0, s1⟩; go_simp; with_reducible rfl); (simp only [zps]; rfl)
      refine pz_ 10 71 ?_ ?_ (bz 14 2047) rfl rfl (by kernel_rfl) (fun _ _ _ h => h) (Or.inl ⟨by rfl, ?_⟩) ?_ ?_; rotate_left 2; (intro w'; go_simp; with_reducible rfl); (simp only [zps]; rfl)
      refine tz_ 11 72 ?_ ?_ (bz 14 4095) rfl rfl (by kernel_rfl) (fun _ _ _ h => h) (Or.inl ⟨by rfl, ?_⟩) hHeld ?_ ?_; rotate_left 2; (rintro w' ⟨s0, s1⟩; go_simp; with_reducible rfl); (simp only [zps]; rfl)
      refine pz_ 12 73 ?_ ?_ (bz 14 8191) rfl rfl (by kernel_rfl) (fun _ _ _ h => h) (Or.inl ⟨by rfl, ?_⟩) ?_ ?_; rotate_left 2; (intro w'; go_simp; with_reducible rfl); (simp only [zps]; rfl)
      refine pz_ 13 74 ?_ ?_ (bz 14 16383) rfl rfl (by kernel_rfl) (fun _ _ _ h => h) (Or.inl ⟨by rfl, ?_⟩) ?_ ?_; rotate_left 2; (intro w'; go_simp; with_reducible rfl); (simp only [zps]; rfl)
      refine done_ (by kernel_rfl) ?_
      clear hHeld
      replace hx0 := zaf HB9.out hx0
      replace hx1 := zaf HB9.out hx1
      replace hx2 := zaf HB9.out hx2
      replace hx3 := zaf HB9.out hx3
      replace hx4 := zaf HB9.out hx4
      replace hx5 := zaf HB9.out hx5
      replace hx6 := zaf HB9.out hx6
      replace hx7 := zaf HB9.out hx7
      replace hx8 := zaf HB9.out hx8
      replace hx9 := zaf HB9.out hx9
      replace hx10 := zaf HB9.out hx10
      replace hx11 := zaf HB9.out hx11
      have NB := zab.mk HB9.out.size
      have NY := zab.mk (zbp BY9.out)
      have HB := HB9
      clear HB9
      go_upto_region 16 with ((with_reducible refine za2 (N := 13) rfl ?_); refine zay ?hg (N := 13) ?hd (cs := #[.int .i64 0, .int .i64 0, .string (⟨#[]⟩ : ByteArray), .int .i64 0, .int .i64 0, .int .i64 0, .string (⟨#[]⟩ : ByteArray), .int .i64 0, .slice none 0 0, .slice none 0 0, .int .i64 0, .int .i64 0]) (t := 41) ?hr ?_; (case hd => rfl); (case hg => rfl); (case hr => first | (go_simp; done) | (go_simp; rfl)); intro gx hg w2 hbox hb; have HB2 := zab.mk (za1 HB.out HB.out.size hb); have BX2 := zab.mk hbox; have GX := zab.mk (show W9.heap.size ≤ gx from Nat.le_of_eq hg.symm); have HB3x := zab.mk hb; have NYX := zab.mk (show gy ≠ gx by have := NY.out; have := GX.out; omega); clear hbox hb hg HB; have hz0 : w2.cell? ⟨gx, 0, none⟩ = some (.int .i64 0) := (zae BX2.out 0).trans rfl; have hf0 := zah BX2.out 0; have hz1 : w2.cell? ⟨gx, 1, none⟩ = some (.int .i64 0) := (zae BX2.out 1).trans rfl; have hf1 := zah BX2.out 1; have hz2 : w2.cell? ⟨gx, 2, none⟩ = some (.string (⟨#[]⟩ : ByteArray)) := (zae BX2.out 2).trans rfl; have hf2 := zah BX2.out 2; have hz3 : w2.cell? ⟨gx, 3, none⟩ = some (.int .i64 0) := (zae BX2.out 3).trans rfl; have hf3 := zah BX2.out 3; have hz4 : w2.cell? ⟨gx, 4, none⟩ = some (.int .i64 0) := (zae BX2.out 4).trans rfl; have hf4 := zah BX2.out 4; have hz5 : w2.cell? ⟨gx, 5, none⟩ = some (.int .i64 0) := (zae BX2.out 5).trans rfl; have hf5 := zah BX2.out 5; have hz6 : w2.cell? ⟨gx, 6, none⟩ = some (.string (⟨#[]⟩ : ByteArray)) := (zae BX2.out 6).trans rfl; have hf6 := zah BX2.out 6; have hz7 : w2.cell? ⟨gx, 7, none⟩ = some (.int .i64 0) := (zae BX2.out 7).trans rfl; have hf7 := zah BX2.out 7; have hz8 : w2.cell? ⟨gx, 8, none⟩ = some (.slice none 0 0) := (zae BX2.out 8).trans rfl; have hf8 := zah BX2.out 8; have hz9 : w2.cell? ⟨gx, 9, none⟩ = some (.slice none 0 0) := (zae BX2.out 9).trans rfl; have hf9 := zah BX2.out 9; have hz10 : w2.cell? ⟨gx, 10, none⟩ = some (.int .i64 0) := (zae BX2.out 10).trans rfl; have hf10 := zah BX2.out 10; have hz11 : w2.cell? ⟨gx, 11, none⟩ = some (.int .i64 0) := (zae BX2.out 11).trans rfl; have hf11 := zah BX2.out 11)
      refine zb0 (G := fun W => Code.wp _ _ _ _ W) _ (fun W10 hW10 => ?_)
      have hnx : W7.heap.size ≤ gx := Nat.le_trans NB.out GX.out
      have BX10 := zab.mk (show W10.heap[gx]? = some (.cells #[.int .i64 x.f0.f0, .int .i64 x.f0.f1, .string x.f0.f2, .int .i64 x.f1, .int .i64 x.f2.f0, .int .i64 x.f2.f1, .string x.f2.f2, .int .i64 x.f3, .slice A8 x.f4.length c8, .slice A9 x.f5.length c9, .int .i64 x.f6, .int .i64 x.f7] 41 (0, 0)) by rw [hW10]; exact put12' BX2.out)
      have HB10 := zab.mk (show Below W7.heap.size W7 W10 by rw [hW10]; exact belown12 HB2.out hnx)
      have BY10 := zab.mk (show W10.heap[gy]? = some (.cells #[.int .i64 y.f0.f0, .int .i64 y.f0.f1, .string y.f0.f2, .int .i64 y.f1, .int .i64 y.f2.f0, .int .i64 y.f2.f1, .string y.f2.f2, .int .i64 y.f3, .slice B8 y.f4.length d8, .slice B9 y.f5.length d9, .int .i64 y.f6, .int .i64 y.f7] 41 (0, 0)) by rw [hW10]; exact (belown12 HB3x.out GX.out).block gy NY.out |>.trans BY9.out)
      clear hz0 hf0 hz1 hf1 hz2 hf2 hz3 hf3 hz4 hf4 hz5 hf5 hz6 hf6 hz7 hf7 hz8 hf8 hz9 hf9 hz10 hf10 hz11 hf11 hx0 hx1 hx2 hx3 hx4 hx5 hx6 hx7 hx8 hx9 hx10 hx11
      clear hW10 HB2 HB3x BX2 GX NB BY9
      have m11 : W10.cell? ⟨gx, 11, none⟩ = some (.int .i64 x.f7) := (zae BX10.out 11).trans rfl
      by_cases hcx : (n : Int) ≤ x.f7
      ·have r8 : decide ((n : Int) ≤ x.f7) = true := decide_eq_true hcx
       have m9 : W10.cell? ⟨gx, 9, none⟩ = some (.slice A9 x.f5.length c9) := (zae BX10.out 9).trans rfl
       have mf9 := zah BX10.out 9
       have mf11 := zah BX10.out 11
       go_upto_region 18 with fail
       refine zb0 (G := fun W => Code.wp _ _ _ _ W) _ (fun W11 hW11 => ?_)
       have BX11 := zab.mk (show W11.heap[gx]? = some (.cells #[.int .i64 x.f0.f0, .int .i64 x.f0.f1, .string x.f0.f2, .int .i64 x.f1, .int .i64 x.f2.f0, .int .i64 x.f2.f1, .string x.f2.f2, .int .i64 x.f3, .slice A8 x.f4.length c8, .slice none 0 0, .int .i64 x.f6, .int .i64 (-1)] 41 (0, 0)) by rw [hW11]; exact zaz (cs := #[.int .i64 x.f0.f0, .int .i64 x.f0.f1, .string x.f0.f2, .int .i64 x.f1, .int .i64 x.f2.f0, .int .i64 x.f2.f1, .string x.f2.f2, .int .i64 x.f3, .slice A8 x.f4.length c8, .slice A9 x.f5.length c9, .int .i64 x.f6, .int .i64 (-1)]) (zaz (cs := #[.int .i64 x.f0.f0, .int .i64 x.f0.f1, .string x.f0.f2, .int .i64 x.f1, .int .i64 x.f2.f0, .int .i64 x.f2.f1, .string x.f2.f2, .int .i64 x.f3, .slice A8 x.f4.length c8, .slice A9 x.f5.length c9, .int .i64 x.f6, .int .i64 x.f7]) (cs' := #[.int .i64 x.f0.f0, .int .i64 x.f0.f1, .string x.f0.f2, .int .i64 x.f1, .int .i64 x.f2.f0, .int .i64 x.f2.f1, .string x.f2.f2, .int .i64 x.f3, .slice A8 x.f4.length c8, .slice A9 x.f5.length c9, .int .i64 x.f6, .int .i64 (-1)]) BX10.out 11 (.int .i64 (-1)) rfl) 9 (.slice none 0 0) rfl)
       have HB11 := zab.mk (show Below W7.heap.size W7 W11 by rw [hW11]; exact (HB10.out.setCell (p := ⟨gx, 11, none⟩) hnx _).setCell (p := ⟨gx, 9, none⟩) hnx _)
       have BY11 := zab.mk (show W11.heap[gy]? = some (.cells #[.int .i64 y.f0.f0, .int .i64 y.f0.f1, .string y.f0.f2, .int .i64 y.f1, .int .i64 y.f2.f0, .int .i64 y.f2.f1, .string y.f2.f2, .int .i64 y.f3, .slice B8 y.f4.length d8, .slice B9 y.f5.length d9, .int .i64 y.f6, .int .i64 y.f7] 41 (0, 0)) by rw [hW11]; exact blk_far (blk_far BY10.out (p := ⟨gx, 11, none⟩) NYX.out _) (p := ⟨gx, 9, none⟩) NYX.out _)
       clear hW11 m9 m11 mf9 mf11 BX10 BY10 HB10
       have m0 : W11.cell? ⟨gx, 0, none⟩ = some (.int .i64 x.f0.f0) := (zae BX11.out 0).trans rfl
       have m1 : W11.cell? ⟨gx, 1, none⟩ = some (.int .i64 x.f0.f1) := (zae BX11.out 1).trans rfl
       have m2 : W11.cell? ⟨gx, 2, none⟩ = some (.string x.f0.f2) := (zae BX11.out 2).trans rfl
       have m3 : W11.cell? ⟨gx, 3, none⟩ = some (.int .i64 x.f1) := (zae BX11.out 3).trans rfl
       have m4 : W11.cell? ⟨gx, 4, none⟩ = some (.int .i64 x.f2.f0) := (zae BX11.out 4).trans rfl
       have m5 : W11.cell? ⟨gx, 5, none⟩ = some (.int .i64 x.f2.f1) := (zae BX11.out 5).trans rfl
       have m6 : W11.cell? ⟨gx, 6, none⟩ = some (.string x.f2.f2) := (zae BX11.out 6).trans rfl
       have m7 : W11.cell? ⟨gx, 7, none⟩ = some (.int .i64 x.f3) := (zae BX11.out 7).trans rfl
       have m8 : W11.cell? ⟨gx, 8, none⟩ = some (.slice A8 x.f4.length c8) := (zae BX11.out 8).trans rfl
       have m9 : W11.cell? ⟨gx, 9, none⟩ = some (.slice none 0 0) := (zae BX11.out 9).trans rfl
       have m10 : W11.cell? ⟨gx, 10, none⟩ = some (.int .i64 x.f6) := (zae BX11.out 10).trans rfl
       have m11 : W11.cell? ⟨gx, 11, none⟩ = some (.int .i64 (-1)) := (zae BX11.out 11).trans rfl
       have z0 : W11.cell? ⟨gy, 0, none⟩ = some (.int .i64 y.f0.f0) := (zae BY11.out 0).trans rfl
       have z1 : W11.cell? ⟨gy, 1, none⟩ = some (.int .i64 y.f0.f1) := (zae BY11.out 1).trans rfl
       have z2 : W11.cell? ⟨gy, 2, none⟩ = some (.string y.f0.f2) := (zae BY11.out 2).trans rfl
       have z3 : W11.cell? ⟨gy, 3, none⟩ = some (.int .i64 y.f1) := (zae BY11.out 3).trans rfl
       have z4 : W11.cell? ⟨gy, 4, none⟩ = some (.int .i64 y.f2.f0) := (zae BY11.out 4).trans rfl
       have z5 : W11.cell? ⟨gy, 5, none⟩ = some (.int .i64 y.f2.f1) := (zae BY11.out 5).trans rfl
       have z6 : W11.cell? ⟨gy, 6, none⟩ = some (.string y.f2.f2) := (zae BY11.out 6).trans rfl
       have z7 : W11.cell? ⟨gy, 7, none⟩ = some (.int .i64 y.f3) := (zae BY11.out 7).trans rfl
       have z8 : W11.cell? ⟨gy, 8, none⟩ = some (.slice B8 y.f4.length d8) := (zae BY11.out 8).trans rfl
       have z9 : W11.cell? ⟨gy, 9, none⟩ = some (.slice B9 y.f5.length d9) := (zae BY11.out 9).trans rfl
       have z10 : W11.cell? ⟨gy, 10, none⟩ = some (.int .i64 y.f6) := (zae BY11.out 10).trans rfl
       have z11 : W11.cell? ⟨gy, 11, none⟩ = some (.int .i64 y.f7) := (zae BY11.out 11).trans rfl
       obtain ⟨k7, hk7⟩ := one_cut CUT.out hcx YOK.out
       have K7 := zab.mk hk7
       clear hk7
       go_wp2_with fail
       refine (zbk.calls k7 x.f0.f0 x.f0.f1 x.f0.f2 x.f1 x.f2.f0 x.f2.f1 x.f2.f2 x.f3 A8 c8 x.f4 none 0 ([] : List S38) x.f6 (-1) y.f0.f0 y.f0.f1 y.f0.f2 y.f1 y.f2.f0 y.f2.f1 y.f2.f2 y.f3 B8 d8 y.f4 B9 d9 y.f5 y.f6 y.f7 true _ (Kd.za9 X8.out HB11.out) XL8.out (Kd.C_nil _ _) (Nat.le_refl 0) (Kd.za9 Y8.out HB11.out) YL8.out (Kd.za9 Y9.out HB11.out) YL9.out K7.out).mono ?_
       rintro e w12 ⟨rfl, hb12⟩
       have HB12 := zab.mk (za1 HB11.out HB11.out.size hb12)
       clear hb12
       have hw8 : IntKind.i64.wrap (i + 1) = i + 1 := IntWalk.i64_in _ (by have := PMX.out; have := CI.out; omega)
       have hw9 := IntWalk.wrap64_in (i + 1) (by have := PMX.out; have := CI.out; omega)
       have hv8 : IntKind.i64.wrap (a + 1) = a + 1 := IntWalk.i64_in _ (by have := OMX.out; have := CA.out; omega)
       have hv9 := IntWalk.wrap64_in (a + 1) (by have := OMX.out; have := CA.out; omega)
       go_wp2_with fail
       first | rw [hw9] | skip
       first | rw [hv9] | skip
       exact ⟨⟨i + 1, a + 1, rfl, rfl, ⟨⟨by omega, by have := CI.out; omega⟩⟩, ⟨⟨by omega, by have := HA.out; have := CA.out; omega⟩⟩, BREST, HB12⟩, by show P.length - (i + 1).toNat < P.length - i.toNat; have := CI.out; omega⟩
      ·have r8 : decide ((n : Int) ≤ x.f7) = false := decide_eq_false hcx
       go_upto_region 18 with fail
       have HB11 := HB10
       have BX11 := BX10
       have BY11 := BY10
       clear m11 HB10 BX10 BY10
       have m0 : W10.cell? ⟨gx, 0, none⟩ = some (.int .i64 x.f0.f0) := (zae BX11.out 0).trans rfl
       have m1 : W10.cell? ⟨gx, 1, none⟩ = some (.int .i64 x.f0.f1) := (zae BX11.out 1).trans rfl
       have m2 : W10.cell? ⟨gx, 2, none⟩ = some (.string x.f0.f2) := (zae BX11.out 2).trans rfl
       have m3 : W10.cell? ⟨gx, 3, none⟩ = some (.int .i64 x.f1) := (zae BX11.out 3).trans rfl
       have m4 : W10.cell? ⟨gx, 4, none⟩ = some (.int .i64 x.f2.f0) := (zae BX11.out 4).trans rfl
       have m5 : W10.cell? ⟨gx, 5, none⟩ = some (.int .i64 x.f2.f1) := (zae BX11.out 5).trans rfl
       have m6 : W10.cell? ⟨gx, 6, none⟩ = some (.string x.f2.f2) := (zae BX11.out 6).trans rfl
       have m7 : W10.cell? ⟨gx, 7, none⟩ = some (.int .i64 x.f3) := (zae BX11.out 7).trans rfl
       have m8 : W10.cell? ⟨gx, 8, none⟩ = some (.slice A8 x.f4.length c8) := (zae BX11.out 8).trans rfl
       have m9 : W10.cell? ⟨gx, 9, none⟩ = some (.slice A9 x.f5.length c9) := (zae BX11.out 9).trans rfl
       have m10 : W10.cell? ⟨gx, 10, none⟩ = some (.int .i64 x.f6) := (zae BX11.out 10).trans rfl
       have m11 : W10.cell? ⟨gx, 11, none⟩ = some (.int .i64 x.f7) := (zae BX11.out 11).trans rfl
       have z0 : W10.cell? ⟨gy, 0, none⟩ = some (.int .i64 y.f0.f0) := (zae BY11.out 0).trans rfl
       have z1 : W10.cell? ⟨gy, 1, none⟩ = some (.int .i64 y.f0.f1) := (zae BY11.out 1).trans rfl
       have z2 : W10.cell? ⟨gy, 2, none⟩ = some (.string y.f0.f2) := (zae BY11.out 2).trans rfl
       have z3 : W10.cell? ⟨gy, 3, none⟩ = some (.int .i64 y.f1) := (zae BY11.out 3).trans rfl
       have z4 : W10.cell? ⟨gy, 4, none⟩ = some (.int .i64 y.f2.f0) := (zae BY11.out 4).trans rfl
       have z5 : W10.cell? ⟨gy, 5, none⟩ = some (.int .i64 y.f2.f1) := (zae BY11.out 5).trans rfl
       have z6 : W10.cell? ⟨gy, 6, none⟩ = some (.string y.f2.f2) := (zae BY11.out 6).trans rfl
       have z7 : W10.cell? ⟨gy, 7, none⟩ = some (.int .i64 y.f3) := (zae BY11.out 7).trans rfl
       have z8 : W10.cell? ⟨gy, 8, none⟩ = some (.slice B8 y.f4.length d8) := (zae BY11.out 8).trans rfl
       have z9 : W10.cell? ⟨gy, 9, none⟩ = some (.slice B9 y.f5.length d9) := (zae BY11.out 9).trans rfl
       have z10 : W10.cell? ⟨gy, 10, none⟩ = some (.int .i64 y.f6) := (zae BY11.out 10).trans rfl
       have z11 : W10.cell? ⟨gy, 11, none⟩ = some (.int .i64 y.f7) := (zae BY11.out 11).trans rfl
       obtain ⟨k7, hk7⟩ := one_not CUT.out hcx YOK.out
       have K7 := zab.mk hk7
       clear hk7
       go_wp2_with fail
       refine (zbk.calls k7 x.f0.f0 x.f0.f1 x.f0.f2 x.f1 x.f2.f0 x.f2.f1 x.f2.f2 x.f3 A8 c8 x.f4 A9 c9 x.f5 x.f6 x.f7 y.f0.f0 y.f0.f1 y.f0.f2 y.f1 y.f2.f0 y.f2.f1 y.f2.f2 y.f3 B8 d8 y.f4 B9 d9 y.f5 y.f6 y.f7 true _ (Kd.za9 X8.out HB11.out) XL8.out (Kd.za9 X9.out HB11.out) XL9.out (Kd.za9 Y8.out HB11.out) YL8.out (Kd.za9 Y9.out HB11.out) YL9.out K7.out).mono ?_
       rintro e w12 ⟨rfl, hb12⟩
       have HB12 := zab.mk (za1 HB11.out HB11.out.size hb12)
       clear hb12
       have hw8 : IntKind.i64.wrap (i + 1) = i + 1 := IntWalk.i64_in _ (by have := PMX.out; have := CI.out; omega)
       have hw9 := IntWalk.wrap64_in (i + 1) (by have := PMX.out; have := CI.out; omega)
       have hv8 : IntKind.i64.wrap (a + 1) = a + 1 := IntWalk.i64_in _ (by have := OMX.out; have := CA.out; omega)
       have hv9 := IntWalk.wrap64_in (a + 1) (by have := OMX.out; have := CA.out; omega)
       go_wp2_with fail
       first | rw [hw9] | skip
       first | rw [hv9] | skip
       exact ⟨⟨i + 1, a + 1, rfl, rfl, ⟨⟨by omega, by have := CI.out; omega⟩⟩, ⟨⟨by omega, by have := HA.out; have := CA.out; omega⟩⟩, BREST, HB12⟩, by show P.length - (i + 1).toNat < P.length - i.toNat; have := CI.out; omega⟩
    ·have ci : decide (i < (P.length : Int)) = false := decide_eq_false hlt
     have BG := BEG.out
     rw [List.drop_eq_nil_of_le (by have := HI.out; omega)] at BG
     have ha0 := HA.out.1
     have s0 := eq_true ha0
     by_cases hla : a < (O.length : Int)
     ·have s1 := eq_true hla
      have s2 : (a == (O.length : Int)) = false := beq_eq_false_iff_ne.mpr (by omega)
      obtain ⟨x, hx⟩ : ∃ x, x = zbx O a := ⟨_, rfl⟩
      have hge : (n : Int) ≤ x.f6 := BG x (by rw [hx]; exact head41 ha0 hla)
      have s3 : decide ((n : Int) ≤ x.f6) = true := decide_eq_true hge
      obtain ⟨ad2, A8, c8, A9, c9, ea, hx0, hx1, hx2, hx3, hx4, hx5, hx6, hx7, hx8, hx9, hx10, hx11, hl8, hi8, hl9, hi9⟩ := at_T41 CO.out a ha0 hla
      cases ea
      rw [← hx] at hx0 hx1 hx2 hx3 hx4 hx5 hx6 hx7 hx8 hx9 hx10 hx11
      have xm := zaf HB.out hx10
      clear hx0 hx1 hx2 hx3 hx4 hx5 hx6 hx7 hx8 hx9 hx10 hx11 hx hl8 hi8 hl9 hi9 hlt hla hge BG
      go_wp2_with fail
      go_ret
      exact ⟨rfl, za1 HB4.out HB4.out.size HB.out⟩
     ·have s2 : (a == (O.length : Int)) = true := beq_iff_eq.mpr (by have := HA.out; omega)
      clear hlt hla BG
      go_wp2_with fail
      go_ret
      exact ⟨rfl, za1 HB4.out HB4.out.size HB.out⟩
  ·have ce1 : (e0 != 0) = true := bne_iff_ne.mpr ce
   clear ce
   go_wp2
   go_ret
   exact ⟨rfl, HB3.out⟩
end Go.Proofs.YtikmmigfdchcpaaDoor.PP
