/-
  Proved: a part of the proof of the claim's statement (text R of it).
  Conditions: none of ours.
-/
import Derived.Test.YtikmmigfdchcpaaDoorPbQ0
import Derived.Test.YtikmmigfdchcpaaDoorPbO
import Derived.Test.YtikmmigfdchcpaaDoorPbQ53
namespace Go.Proofs.YtikmmigfdchcpaaDoor.PP
open Go.RowKit Go.Proofs.YtikmmigfdchcpaaDoorW.PrintWords Go.Proofs.YtikmmigfdchcpaaDoorW.PrintLast Go.Proofs.YtikmmigfdchcpaaDoorW.PrintMore
set_option linter.unusedVariables false
set_option linter.unusedSimpArgs false
theorem heap_k38 : Kd.Heap k38 := Kd.heap_iso _ (Kd.heap_pair (Kd.heap_int .i64) (Kd.heap_pair (Kd.heap_int .i64) Kd.heap_string))
def refAt (k : Nat) (l : List S47) (i : Int) : Option (List S41) :=
 if (zah l i).f2 = 1 then (zbh.f k l i).bind fun q => (if 0 ≤ q then (if q < (l.length : Int) then
   (if (zah l q).f2 = 3 then some [] else if (zah l q).f2 = 2 then some [⟨(zah l i).f1, (zah l i).f3, (zah l i).f4, (zah l i).f5, (zah l i).f6, (zah l q).f7, i, q⟩] else some [⟨(zah l i).f1, (zah l i).f3, (zah l i).f4, (zah l i).f5, (zah l i).f6, [], i, -1⟩]) else none)
  else some [⟨(zah l i).f1, (zah l i).f3, (zah l i).f4, (zah l i).f5, (zah l i).f6, [], i, -1⟩])
 else some []
def refL (k : Nat) (l : List S47) : Nat → Int → List S41 → Option (List S41)
 | 0, _, _ => none
 | n + 1, i, out => if i < (l.length : Int) then (refAt k l i).bind fun o => refL k l n (i + 1) (out ++ o) else some out
def zb4.f (k : Nat) (l : List S47) : Option (List S41) := if l.length ≤ 1000 then refL k l (l.length + 1) 0 [] else none
set_option maxHeartbeats 16000000 in
set_option maxRecDepth 100000 in
theorem zb4.calls (k : Nat) (A0 : Option Addr) (c0 : Nat) (l : List S47) (r1 : List S41) (w : World) (hr0 : Kd.C k47 w A0 l.length l) (hc0 : l.length ≤ c0) (h : zb4.f k l = some r1) :
  Calls Tryd.prog 14 #[.slice A0 l.length c0] w fun e w' => ∃ (A : Option Addr) (c : Nat), e = .returned (.slice A r1.length c) ∧ r1.length ≤ c ∧ Kd.C k41 w' A r1.length r1 ∧ Below w.heap.size w w' := by
 have hu41 := Tryd.underlying41
 have hu47 := Tryd.underlying47
 unfold zb4.f at h
 by_cases hl : l.length ≤ 1000
 ·rw [if_pos hl] at h
  have HL := zae.mk hl
  have AO := zae.mk h
  have HR0 := zae.mk hr0
  have HC0 := zae.mk hc0
  clear hl h hr0 hc0
  go_enter Tryd.func14, Tryd.ntmps14
  go_wp2
  go_loopg [3, 4] (l.length + 1) (fun kq v3 v4 w' => ∃ (i : Int) (out : List S41), v4 = .int .i64 i ∧ zae (0 ≤ i) ∧ zae (refL k l kq i out = some r1) ∧ zae ((out.length : Int) ≤ i) ∧ zae (Kd.N k41 41 w' w.heap.size (fun _ => True) v3 out) ∧ zae (Below w.heap.size w w'))
  case atStart => exact ⟨0, [], rfl, ⟨Int.le_refl _⟩, AO, ⟨Int.le_refl _⟩, ⟨Kd.N_nil _ _ _ _ _⟩, ⟨Below.refl _ _⟩⟩
  case round =>
   clear AO
   obtain ⟨i, out, rfl, HI0, HA, HLO, HO, HB⟩ := hrel
   cases gk with
   | zero => exact absurd HA.out (by simp [refL])
   | succ k1 =>
    have H := HA.out
    clear HA
    simp only [refL] at H
    by_cases c2 : i < (l.length : Int)
    ·rw [if_pos c2] at H
     have c2b0 : decide (i < (l.length : Int)) = true := decide_eq_true c2
     have p0 := eq_true HI0.out
     have hi0 := HI0.out
     have q0 := eq_true c2
     have hi1000 : i < 1000 := by have := HL.out; omega
     have CI := zae.mk c2
     clear c2
     obtain ⟨ops, A3, H⟩ := Option.bind_eq_some_iff.mp H
     have HA := zae.mk H
     clear H
     obtain ⟨x, hx⟩ : ∃ x, x = zah l i := ⟨_, rfl⟩
     obtain ⟨ad, A10, c10, A11, c11, ea, hx0, hx1, hx2, hx3, hx4, hx5, hx6, hx7, hx8, hx9, hx10, hx11, hx12, hx13, hl10, hi10, hl11, hi11⟩ := zcr HR0.out i HI0.out CI.out
     cases ea
     unfold refAt at A3
     rw [← hx] at A3 hx0 hx1 hx2 hx3 hx4 hx5 hx6 hx7 hx8 hx9 hx10 hx11 hx12 hx13 hl10 hi10 hl11 hi11
     clear hx
     replace hx0 := zab HB.out hx0
     replace hx1 := zab HB.out hx1
     replace hx2 := zab HB.out hx2
     replace hx3 := zab HB.out hx3
     replace hx4 := zab HB.out hx4
     replace hx5 := zab HB.out hx5
     replace hx6 := zab HB.out hx6
     replace hx7 := zab HB.out hx7
     replace hx8 := zab HB.out hx8
     replace hx9 := zab HB.out hx9
     replace hx10 := zab HB.out hx10
     replace hx11 := zab HB.out hx11
     replace hx12 := zab HB.out hx12
     replace hx13 := zab HB.out hx13
     have HF10 := zae.mk (Kd.C_F heap_k38 hi10)
     have HL10 := zae.mk hl10
     clear hi10 hl10 hi11 hl11
     obtain ⟨n0, hn0⟩ : ∃ n0, n0 = wr.heap.size := ⟨_, rfl⟩
     have NB := zae.mk (show w.heap.size ≤ n0 by rw [hn0]; exact HB.out.size)
     have HN := zae.mk hn0
     have HOn := zae.mk (show Kd.N k41 41 wr w.heap.size (fun k => k < n0) u3 out by rw [hn0]; exact Kd.N_mono (Kd.N_bound HO.out) (fun _ hk => hk.2))
     clear HO
     have HO := HOn
     clear HOn hn0
     have HA3 := zae.mk A3
     clear A3
     go_upto_region 6 with ((with_reducible refine za8 (N := 5) rfl ?_); refine za7 ?hg (N := 5) ?hd (cs := #[.int .i64 0, .int .i64 0, .int .i64 0, .string (⟨#[]⟩ : ByteArray), .int .i64 0, .int .i64 0, .int .i64 0, .int .i64 0, .string (⟨#[]⟩ : ByteArray), .int .i64 0, .slice none 0 0, .slice none 0 0, .bool false, .string (⟨#[]⟩ : ByteArray)]) (t := 47) ?hr ?_; (case hd => rfl); (case hg => rfl); (case hr => first | (go_simp; done) | (go_simp; rfl)); intro gx hg w2 hbox hb; have HB2 := zae.mk (zbp HB.out HB.out.size hb); have HO2 := zae.mk (Kd.N_below HO.out hb); have BX2 := zae.mk hbox; have GX := zae.mk (show wr.heap.size ≤ gx from Nat.le_of_eq hg.symm); clear hbox hb hg HB HO; have hz0 : w2.cell? ⟨gx, 0, none⟩ = some (.int .i64 0) := (zaf BX2.out 0).trans rfl; have hf0 := zas BX2.out 0; have hz1 : w2.cell? ⟨gx, 1, none⟩ = some (.int .i64 0) := (zaf BX2.out 1).trans rfl; have hf1 := zas BX2.out 1; have hz2 : w2.cell? ⟨gx, 2, none⟩ = some (.int .i64 0) := (zaf BX2.out 2).trans rfl; have hf2 := zas BX2.out 2; have hz3 : w2.cell? ⟨gx, 3, none⟩ = some (.string (⟨#[]⟩ : ByteArray)) := (zaf BX2.out 3).trans rfl; have hf3 := zas BX2.out 3; have hz4 : w2.cell? ⟨gx, 4, none⟩ = some (.int .i64 0) := (zaf BX2.out 4).trans rfl; have hf4 := zas BX2.out 4; have hz5 : w2.cell? ⟨gx, 5, none⟩ = some (.int .i64 0) := (zaf BX2.out 5).trans rfl; have hf5 := zas BX2.out 5; have hz6 : w2.cell? ⟨gx, 6, none⟩ = some (.int .i64 0) := (zaf BX2.out 6).trans rfl; have hf6 := zas BX2.out 6; have hz7 : w2.cell? ⟨gx, 7, none⟩ = some (.int .i64 0) := (zaf BX2.out 7).trans rfl; have hf7 := zas BX2.out 7; have hz8 : w2.cell? ⟨gx, 8, none⟩ = some (.string (⟨#[]⟩ : ByteArray)) := (zaf BX2.out 8).trans rfl; have hf8 := zas BX2.out 8; have hz9 : w2.cell? ⟨gx, 9, none⟩ = some (.int .i64 0) := (zaf BX2.out 9).trans rfl; have hf9 := zas BX2.out 9; have hz10 : w2.cell? ⟨gx, 10, none⟩ = some (.slice none 0 0) := (zaf BX2.out 10).trans rfl; have hf10 := zas BX2.out 10; have hz11 : w2.cell? ⟨gx, 11, none⟩ = some (.slice none 0 0) := (zaf BX2.out 11).trans rfl; have hf11 := zas BX2.out 11; have hz12 : w2.cell? ⟨gx, 12, none⟩ = some (.bool false) := (zaf BX2.out 12).trans rfl; have hf12 := zas BX2.out 12; have hz13 : w2.cell? ⟨gx, 13, none⟩ = some (.string (⟨#[]⟩ : ByteArray)) := (zaf BX2.out 13).trans rfl; have hf13 := zas BX2.out 13)
     refine zcn (G := fun W => Code.wp _ _ _ _ W) _ (fun W5 hW5 => ?_)
     have hnx : n0 ≤ gx := by have := GX.out; have := HN.out; omega
     have BX := zae.mk (show W5.heap[gx]? = some (.cells #[.int .i64 x.f0, .int .i64 x.f1.f0, .int .i64 x.f1.f1, .string x.f1.f2, .int .i64 x.f2, .int .i64 x.f3, .int .i64 x.f4.f0, .int .i64 x.f4.f1, .string x.f4.f2, .int .i64 x.f5, .slice A10 x.f6.length c10, .slice A11 x.f7.length c11, .bool x.f8, .string x.f9] 47 (0, 0)) by rw [hW5]; exact put14' BX2.out)
     have HB := zae.mk (show Below w.heap.size w W5 by rw [hW5]; exact belown14 HB2.out (by have := NB.out; omega))
     have HO := zae.mk (show Kd.N k41 41 W5 w.heap.size (fun k => k < n0) u3 out by rw [hW5]; exact farN14 HO2.out (fun k hk => by omega))
     have NZ := zae.mk (show n0 ≤ W5.heap.size by have := zca BX.out; omega)
     clear hz0 hf0 hz1 hf1 hz2 hf2 hz3 hf3 hz4 hf4 hz5 hf5 hz6 hf6 hz7 hf7 hz8 hf8 hz9 hf9 hz10 hf10 hz11 hf11 hz12 hf12 hz13 hf13 hx0 hx1 hx2 hx3 hx4 hx5 hx6 hx7 hx8 hx9 hx10 hx11 hx12 hx13
     clear hW5 HB2 HO2 BX2 GX hnx
     have y0 : W5.cell? ⟨gx, 0, none⟩ = some (.int .i64 x.f0) := (zaf BX.out 0).trans rfl
     have y1 : W5.cell? ⟨gx, 1, none⟩ = some (.int .i64 x.f1.f0) := (zaf BX.out 1).trans rfl
     have y2 : W5.cell? ⟨gx, 2, none⟩ = some (.int .i64 x.f1.f1) := (zaf BX.out 2).trans rfl
     have y3 : W5.cell? ⟨gx, 3, none⟩ = some (.string x.f1.f2) := (zaf BX.out 3).trans rfl
     have y4 : W5.cell? ⟨gx, 4, none⟩ = some (.int .i64 x.f2) := (zaf BX.out 4).trans rfl
     have y5 : W5.cell? ⟨gx, 5, none⟩ = some (.int .i64 x.f3) := (zaf BX.out 5).trans rfl
     have y6 : W5.cell? ⟨gx, 6, none⟩ = some (.int .i64 x.f4.f0) := (zaf BX.out 6).trans rfl
     have y7 : W5.cell? ⟨gx, 7, none⟩ = some (.int .i64 x.f4.f1) := (zaf BX.out 7).trans rfl
     have y8 : W5.cell? ⟨gx, 8, none⟩ = some (.string x.f4.f2) := (zaf BX.out 8).trans rfl
     have y9 : W5.cell? ⟨gx, 9, none⟩ = some (.int .i64 x.f5) := (zaf BX.out 9).trans rfl
     have y10 : W5.cell? ⟨gx, 10, none⟩ = some (.slice A10 x.f6.length c10) := (zaf BX.out 10).trans rfl
     have y11 : W5.cell? ⟨gx, 11, none⟩ = some (.slice A11 x.f7.length c11) := (zaf BX.out 11).trans rfl
     have y12 : W5.cell? ⟨gx, 12, none⟩ = some (.bool x.f8) := (zaf BX.out 12).trans rfl
     have y13 : W5.cell? ⟨gx, 13, none⟩ = some (.string x.f9) := (zaf BX.out 13).trans rfl
     by_cases c3 : x.f2 = 1
     ·have H3 := HA3.out
      rw [if_pos c3] at H3
      have q3 : (x.f2 == 1) = true := beq_iff_eq.mpr c3
      have q3' : (x.f2 != 1) = false := bne_eq_false_iff_eq.mpr c3
      clear c3 HA3
      obtain ⟨q, AQ, H4⟩ := Option.bind_eq_some_iff.mp H3
      have AQ := zae.mk AQ
      have HA3 := zae.mk H4
      clear H3 H4
      go_upto_region 8 with ((with_reducible refine za8 (N := 6) rfl ?_); refine za7 ?hg (N := 6) ?hd (cs := #[.int .i64 0, .int .i64 0, .string (⟨#[]⟩ : ByteArray), .int .i64 0, .int .i64 0, .int .i64 0, .string (⟨#[]⟩ : ByteArray), .int .i64 0, .slice none 0 0, .slice none 0 0, .int .i64 0, .int .i64 0]) (t := 41) ?hr ?_; (case hd => rfl); (case hg => rfl); (case hr => first | (go_simp; done) | (go_simp; rfl)); intro go hg w3 hbox hb; have HB3 := zae.mk (zbp HB.out HB.out.size hb); have HO3 := zae.mk (Kd.N_below HO.out hb); have BO3 := zae.mk hbox; have NG := zae.mk (show n0 ≤ go by rw [hg]; exact NZ.out); clear hbox hb hg HB HO; have hz0 : w3.cell? ⟨go, 0, none⟩ = some (.int .i64 0) := (zaf BO3.out 0).trans rfl; have hz1 : w3.cell? ⟨go, 1, none⟩ = some (.int .i64 0) := (zaf BO3.out 1).trans rfl; have hz2 : w3.cell? ⟨go, 2, none⟩ = some (.string (⟨#[]⟩ : ByteArray)) := (zaf BO3.out 2).trans rfl; have hz3 : w3.cell? ⟨go, 3, none⟩ = some (.int .i64 0) := (zaf BO3.out 3).trans rfl; have hz4 : w3.cell? ⟨go, 4, none⟩ = some (.int .i64 0) := (zaf BO3.out 4).trans rfl; have hz5 : w3.cell? ⟨go, 5, none⟩ = some (.int .i64 0) := (zaf BO3.out 5).trans rfl; have hz6 : w3.cell? ⟨go, 6, none⟩ = some (.string (⟨#[]⟩ : ByteArray)) := (zaf BO3.out 6).trans rfl; have hz7 : w3.cell? ⟨go, 7, none⟩ = some (.int .i64 0) := (zaf BO3.out 7).trans rfl; have hz8 : w3.cell? ⟨go, 8, none⟩ = some (.slice none 0 0) := (zaf BO3.out 8).trans rfl; have hz9 : w3.cell? ⟨go, 9, none⟩ = some (.slice none 0 0) := (zaf BO3.out 9).trans rfl; have hz10 : w3.cell? ⟨go, 10, none⟩ = some (.int .i64 0) := (zaf BO3.out 10).trans rfl; have hz11 : w3.cell? ⟨go, 11, none⟩ = some (.int .i64 0) := (zaf BO3.out 11).trans rfl; have hf0 := zas BO3.out 0; have hf1 := zas BO3.out 1; have hf2 := zas BO3.out 2; have hf3 := zas BO3.out 3; have hf4 := zas BO3.out 4; have hf5 := zas BO3.out 5; have hf6 := zas BO3.out 6; have hf7 := zas BO3.out 7; have hf8 := zas BO3.out 8; have hf9 := zas BO3.out 9; have hf10 := zas BO3.out 10; have hf11 := zas BO3.out 11)
      refine zcn (G := fun W => Code.wp _ _ _ _ W) _ (fun W6 hW6 => ?_)
      have BO := zae.mk (show W6.heap[go]? = some (.cells #[.int .i64 x.f1.f0, .int .i64 x.f1.f1, .string x.f1.f2, .int .i64 x.f3, .int .i64 x.f4.f0, .int .i64 x.f4.f1, .string x.f4.f2, .int .i64 x.f5, .slice A10 x.f6.length c10, .slice none 0 0, .int .i64 i, .int .i64 (-1)] 41 (0, 0)) by rw [hW6]; exact put12' BO3.out)
      have HB := zae.mk (show Below w.heap.size w W6 by rw [hW6]; exact belown12 HB3.out (Nat.le_trans NB.out NG.out))
      have HO := zae.mk (show Kd.N k41 41 W6 w.heap.size (fun k => k < n0) u3 out by rw [hW6]; exact farN12 HO3.out (fun k hk => by have := NG.out; omega))
      clear hz0 hf0 hz1 hf1 hz2 hf2 hz3 hf3 hz4 hf4 hz5 hf5 hz6 hf6 hz7 hf7 hz8 hf8 hz9 hf9 hz10 hf10 hz11 hf11
      clear hW6 HB3 HO3 BO3 BX y0 y1 y2 y3 y4 y5 y6 y7 y8 y9 y10 y11 y12 y13
      by_cases c4 : 0 ≤ q
      ·have H4 := HA3.out
       rw [if_pos c4] at H4
       by_cases c5 : q < (l.length : Int)
       ·rw [if_pos c5] at H4
        have q4 : decide (0 ≤ q) = true := decide_eq_true c4
        have p4 := eq_true c4
        have p5 := eq_true c5
        obtain ⟨y, hy⟩ : ∃ y, y = zah l q := ⟨_, rfl⟩
        obtain ⟨ad2, B10, d10, B11, d11, ea2, hm0, hm1, hm2, hm3, hm4, hm5, hm6, hm7, hm8, hm9, hm10, hm11, hm12, hm13, hk10, hj10, hk11, hj11⟩ := zcr HR0.out q c4 c5
        cases ea2
        rw [← hy] at H4 hm4 hm11 hk11 hj11
        have HF11 := zae.mk (Kd.C_F heap_k38 hj11)
        have HL11 := zae.mk hk11
        have HM := zae.mk (And.intro hm4 hm11)
        clear hy hm0 hm1 hm2 hm3 hm4 hm5 hm6 hm7 hm8 hm9 hm10 hm11 hm12 hm13 hk10 hj10 hk11 hj11 HA3 c4 c5
        have z4 := (HB.out.cell (World.block_lt_of_cell? w _ HM.out.1)).trans HM.out.1
        have z11 := (HB.out.cell (World.block_lt_of_cell? w _ HM.out.2)).trans HM.out.2
        by_cases c6 : y.f2 = 3
        ·rw [if_pos c6] at H4
         have q6 : (y.f2 == 3) = true := beq_iff_eq.mpr c6
         clear c6
         obtain rfl := Option.some.inj H4
         have HA2 : zae (refL k l k1 (i + 1) out = some r1) := ⟨by have := HA.out; rwa [List.append_nil] at this⟩
         clear HA H4
         go_wp2_with ((with_reducible refine za3 (f := 24) rfl ?_); refine zbv (some 35) rfl rfl Tryd.func24 (by kernel_rfl) rfl #[.slice (some ad) l.length c0, .int .i64 i] rfl (by (try simp only [List.map_toArray, List.map_cons, List.map_nil]); first | done | rfl) ?_; (with_reducible refine (zbh.calls k _ _ l i q _ ?s1 ?s2 AQ.out).mono ?_); (case s1 => exact Kd.zbk HR0.out HB.out); (case s2 => exact HC0.out); rintro e w' ⟨rfl, ⟨nd, rfl⟩⟩; refine ⟨_, rfl, ?_⟩)
         go_roundg k1
         case measure => omega
         case rel => exact ⟨i + 1, out, rfl, ⟨by omega⟩, HA2, ⟨by have := HLO.out; omega⟩, ⟨Kd.N_mono (Kd.N_drewN HO.out nd) (fun _ _ => trivial)⟩, ⟨zaa HB.out nd⟩⟩
        ·rw [if_neg c6] at H4
         have q6 : (y.f2 == 3) = false := beq_eq_false_iff_ne.mpr c6
         clear c6
         by_cases c7 : y.f2 = 2
         ·rw [if_pos c7] at H4
          have q7 : (y.f2 == 2) = true := beq_iff_eq.mpr c7
          clear c7
          obtain rfl := Option.some.inj H4
          clear H4
          have t9 : W6.cell? ⟨go, 9, none⟩ = some (.slice none 0 0) := (zaf BO.out 9).trans rfl
          have t11 : W6.cell? ⟨go, 11, none⟩ = some (.int .i64 (-1)) := (zaf BO.out 11).trans rfl
          have tf9 := zas BO.out 9
          have tf11 := zas BO.out 11
          go_upto_region 12 with ((with_reducible refine za3 (f := 24) rfl ?_); refine zbv (some 35) rfl rfl Tryd.func24 (by kernel_rfl) rfl #[.slice (some ad) l.length c0, .int .i64 i] rfl (by (try simp only [List.map_toArray, List.map_cons, List.map_nil]); first | done | rfl) ?_; (with_reducible refine (zbh.calls k _ _ l i q _ ?s1 ?s2 AQ.out).mono ?_); (case s1 => exact Kd.zbk HR0.out HB.out); (case s2 => exact HC0.out); rintro e w' ⟨rfl, ⟨nd, rfl⟩⟩; refine ⟨_, rfl, ?_⟩)
          refine zcn (G := fun W => Code.wp _ _ _ _ W) _ (fun W10 hW10 => ?_)
          have BO1 := zae.mk (show W10.heap[go]? = some (.cells #[.int .i64 x.f1.f0, .int .i64 x.f1.f1, .string x.f1.f2, .int .i64 x.f3, .int .i64 x.f4.f0, .int .i64 x.f4.f1, .string x.f4.f2, .int .i64 x.f5, .slice A10 x.f6.length c10, .slice none 0 0, .int .i64 i, .int .i64 q] 41 (0, 0)) by rw [hW10]; exact zbe (cs := #[.int .i64 x.f1.f0, .int .i64 x.f1.f1, .string x.f1.f2, .int .i64 x.f3, .int .i64 x.f4.f0, .int .i64 x.f4.f1, .string x.f4.f2, .int .i64 x.f5, .slice A10 x.f6.length c10, .slice none 0 0, .int .i64 i, .int .i64 (-1)]) (zai BO.out nd) 11 (.int .i64 q) rfl)
          have HB1 := zae.mk (show Below w.heap.size w W10 by rw [hW10]; exact (zaa HB.out nd).setCell (p := ⟨go, 11, none⟩) (Nat.le_trans NB.out NG.out) _)
          have HO1 := zae.mk (show Kd.N k41 41 W10 w.heap.size (fun k => k < n0) u3 out by rw [hW10]; exact Kd.N_far (p := ⟨go, 11, none⟩) (Kd.N_drewN HO.out nd) (fun k hk => by have := NG.out; show k ≠ go; omega) _)
          clear hW10 BO HB HO t9 t11 tf9 tf11 z4 z11
          have BO := BO1
          have HB := HB1
          have HO := HO1
          clear BO1 HB1 HO1
          have z11 := (HB.out.cell (World.block_lt_of_cell? w _ HM.out.2)).trans HM.out.2
          have t9 : W10.cell? ⟨go, 9, none⟩ = some (.slice none 0 0) := (zaf BO.out 9).trans rfl
          have tf9 := zas BO.out 9
          go_upto_region 13 with (fail)
          refine zcn (G := fun W => Code.wp _ _ _ _ W) _ (fun W11 hW11 => ?_)
          have BO1 := zae.mk (show W11.heap[go]? = some (.cells #[.int .i64 x.f1.f0, .int .i64 x.f1.f1, .string x.f1.f2, .int .i64 x.f3, .int .i64 x.f4.f0, .int .i64 x.f4.f1, .string x.f4.f2, .int .i64 x.f5, .slice A10 x.f6.length c10, .slice B11 y.f7.length d11, .int .i64 i, .int .i64 q] 41 (0, 0)) by rw [hW11]; exact zbe (cs := #[.int .i64 x.f1.f0, .int .i64 x.f1.f1, .string x.f1.f2, .int .i64 x.f3, .int .i64 x.f4.f0, .int .i64 x.f4.f1, .string x.f4.f2, .int .i64 x.f5, .slice A10 x.f6.length c10, .slice none 0 0, .int .i64 i, .int .i64 q]) BO.out 9 _ rfl)
          have HB1 := zae.mk (show Below w.heap.size w W11 by rw [hW11]; exact HB.out.setCell (p := ⟨go, 9, none⟩) (Nat.le_trans NB.out NG.out) _)
          have HO1 := zae.mk (show Kd.N k41 41 W11 w.heap.size (fun k => k < n0) u3 out by rw [hW11]; exact Kd.N_far (p := ⟨go, 9, none⟩) HO.out (fun k hk => by have := NG.out; show k ≠ go; omega) _)
          clear hW11 BO HB HO t9 tf9 z11
          have BO := BO1
          have HB := HB1
          have HO := HO1
          clear BO1 HB1 HO1
          have t0 : W11.cell? ⟨go, 0, none⟩ = some (.int .i64 x.f1.f0) := (zaf BO.out 0).trans rfl
          have t1 : W11.cell? ⟨go, 1, none⟩ = some (.int .i64 x.f1.f1) := (zaf BO.out 1).trans rfl
          have t2 : W11.cell? ⟨go, 2, none⟩ = some (.string x.f1.f2) := (zaf BO.out 2).trans rfl
          have t3 : W11.cell? ⟨go, 3, none⟩ = some (.int .i64 x.f3) := (zaf BO.out 3).trans rfl
          have t4 : W11.cell? ⟨go, 4, none⟩ = some (.int .i64 x.f4.f0) := (zaf BO.out 4).trans rfl
          have t5 : W11.cell? ⟨go, 5, none⟩ = some (.int .i64 x.f4.f1) := (zaf BO.out 5).trans rfl
          have t6 : W11.cell? ⟨go, 6, none⟩ = some (.string x.f4.f2) := (zaf BO.out 6).trans rfl
          have t7 : W11.cell? ⟨go, 7, none⟩ = some (.int .i64 x.f5) := (zaf BO.out 7).trans rfl
          have t8 : W11.cell? ⟨go, 8, none⟩ = some (.slice A10 x.f6.length c10) := (zaf BO.out 8).trans rfl
          have t9 : W11.cell? ⟨go, 9, none⟩ = some (.slice B11 y.f7.length d11) := (zaf BO.out 9).trans rfl
          have t10 : W11.cell? ⟨go, 10, none⟩ = some (.int .i64 i) := (zaf BO.out 10).trans rfl
          have t11 : W11.cell? ⟨go, 11, none⟩ = some (.int .i64 q) := (zaf BO.out 11).trans rfl
          go_wp2_with ((with_reducible refine zcj (b := .append) (xs := #[.tmp 64, .tmp 66]) rfl ?_); at_builtin; refine Kd.N_append k41 (w0 := w) w.heap.size rfl (.tmp 64) (.tmp 66) 32 41 (.agg #[(.int .i64 0), (.int .i64 0), (.string ⟨#[]⟩), (.int .i64 0), (.int .i64 0), (.int .i64 0), (.string ⟨#[]⟩), (.int .i64 0), (.slice none 0 0), (.slice none 0 0), (.int .i64 0), (.int .i64 0)]) 144 rfl Tryd.underlying32 info41 rfl (by decide) (by omega) u3 out (⟨x.f1, x.f3, x.f4, x.f5, x.f6, y.f7, i, q⟩ : S41) [.int .i64 x.f1.f0, .int .i64 x.f1.f1, .string x.f1.f2, .int .i64 x.f3, .int .i64 x.f4.f0, .int .i64 x.f4.f1, .string x.f4.f2, .int .i64 x.f5, .slice A10 x.f6.length c10, .slice B11 y.f7.length d11, .int .i64 i, .int .i64 q] (fun _ => True) (fun k_ => k_ < w.heap.size) rfl rfl ?aP ?aK ?aF ?aO ?aB ?aS ?aL ?_; (case aP => exact k41_mkF _ _ (⟨x.f1, x.f3, x.f4, x.f5, x.f6, y.f7, i, q⟩ : S41) HL10.out (Kd.F_below HF10.out HB.out) HL11.out (Kd.F_below HF11.out HB.out)); (case aK => exact fun k_ hk_ => ⟨trivial, fun e_ => by have h1 := Kd.N_base HO.out k_ e_.symm; omega⟩); (case aF => exact fun _ _ => trivial); (case aO => exact Kd.N_mono HO.out (fun _ _ => trivial)); (case aB => exact HB.out); (case aS => exact HB.out.size); (case aL => have := HLO.out; omega); intro v12 w12 ho hb hg hat; have HO12 := zae.mk ho; have HB12 := zae.mk hb; clear ho hb hg hat HO HB BO)
          go_roundg k1
          case measure => omega
          case rel => exact ⟨i + 1, out ++ [(⟨x.f1, x.f3, x.f4, x.f5, x.f6, y.f7, i, q⟩ : S41)], rfl, ⟨by omega⟩, HA, ⟨by have := HLO.out; simp only [List.length_append, List.length_singleton]; omega⟩, HO12, HB12⟩
         ·rw [if_neg c7] at H4
          have q7 : (y.f2 == 2) = false := beq_eq_false_iff_ne.mpr c7
          clear c7
          obtain rfl := Option.some.inj H4
          clear H4
          go_upto_region 13 with ((with_reducible refine za3 (f := 24) rfl ?_); refine zbv (some 35) rfl rfl Tryd.func24 (by kernel_rfl) rfl #[.slice (some ad) l.length c0, .int .i64 i] rfl (by (try simp only [List.map_toArray, List.map_cons, List.map_nil]); first | done | rfl) ?_; (with_reducible refine (zbh.calls k _ _ l i q _ ?s1 ?s2 AQ.out).mono ?_); (case s1 => exact Kd.zbk HR0.out HB.out); (case s2 => exact HC0.out); rintro e w' ⟨rfl, ⟨nd, rfl⟩⟩; refine ⟨_, rfl, ?_⟩)
          refine zcn (G := fun W => Code.wp _ _ _ _ W) _ (fun W11 hW11 => ?_)
          have BO1 := zae.mk (show W11.heap[go]? = some (.cells #[.int .i64 x.f1.f0, .int .i64 x.f1.f1, .string x.f1.f2, .int .i64 x.f3, .int .i64 x.f4.f0, .int .i64 x.f4.f1, .string x.f4.f2, .int .i64 x.f5, .slice A10 x.f6.length c10, .slice none 0 0, .int .i64 i, .int .i64 (-1)] 41 (0, 0)) by rw [hW11]; exact zai BO.out nd)
          have HB1 := zae.mk (show Below w.heap.size w W11 by rw [hW11]; exact zaa HB.out nd)
          have HO1 := zae.mk (show Kd.N k41 41 W11 w.heap.size (fun k => k < n0) u3 out by rw [hW11]; exact Kd.N_drewN HO.out nd)
          clear hW11 BO HB HO z4 z11
          have BO := BO1
          have HB := HB1
          have HO := HO1
          clear BO1 HB1 HO1
          have t0 : W11.cell? ⟨go, 0, none⟩ = some (.int .i64 x.f1.f0) := (zaf BO.out 0).trans rfl
          have t1 : W11.cell? ⟨go, 1, none⟩ = some (.int .i64 x.f1.f1) := (zaf BO.out 1).trans rfl
          have t2 : W11.cell? ⟨go, 2, none⟩ = some (.string x.f1.f2) := (zaf BO.out 2).trans rfl
          have t3 : W11.cell? ⟨go, 3, none⟩ = some (.int .i64 x.f3) := (zaf BO.out 3).trans rfl
          have t4 : W11.cell? ⟨go, 4, none⟩ = some (.int .i64 x.f4.f0) := (zaf BO.out 4).trans rfl
          have t5 : W11.cell? ⟨go, 5, none⟩ = some (.int .i64 x.f4.f1) := (zaf BO.out 5).trans rfl
          have t6 : W11.cell? ⟨go, 6, none⟩ = some (.string x.f4.f2) := (zaf BO.out 6).trans rfl
          have t7 : W11.cell? ⟨go, 7, none⟩ = some (.int .i64 x.f5) := (zaf BO.out 7).trans rfl
          have t8 : W11.cell? ⟨go, 8, none⟩ = some (.slice A10 x.f6.length c10) := (zaf BO.out 8).trans rfl
          have t9 : W11.cell? ⟨go, 9, none⟩ = some (.slice none 0 0) := (zaf BO.out 9).trans rfl
          have t10 : W11.cell? ⟨go, 10, none⟩ = some (.int .i64 i) := (zaf BO.out 10).trans rfl
          have t11 : W11.cell? ⟨go, 11, none⟩ = some (.int .i64 (-1)) := (zaf BO.out 11).trans rfl
          go_wp2_with ((with_reducible refine zcj (b := .append) (xs := #[.tmp 64, .tmp 66]) rfl ?_); at_builtin; refine Kd.N_append k41 (w0 := w) w.heap.size rfl (.tmp 64) (.tmp 66) 32 41 (.agg #[(.int .i64 0), (.int .i64 0), (.string ⟨#[]⟩), (.int .i64 0), (.int .i64 0), (.int .i64 0), (.string ⟨#[]⟩), (.int .i64 0), (.slice none 0 0), (.slice none 0 0), (.int .i64 0), (.int .i64 0)]) 144 rfl Tryd.underlying32 info41 rfl (by decide) (by omega) u3 out (⟨x.f1, x.f3, x.f4, x.f5, x.f6, [], i, -1⟩ : S41) [.int .i64 x.f1.f0, .int .i64 x.f1.f1, .string x.f1.f2, .int .i64 x.f3, .int .i64 x.f4.f0, .int .i64 x.f4.f1, .string x.f4.f2, .int .i64 x.f5, .slice A10 x.f6.length c10, .slice none 0 0, .int .i64 i, .int .i64 (-1)] (fun _ => True) (fun k_ => k_ < w.heap.size) rfl rfl ?aP ?aK ?aF ?aO ?aB ?aS ?aL ?_; (case aP => exact k41_mkF _ _ (⟨x.f1, x.f3, x.f4, x.f5, x.f6, [], i, -1⟩ : S41) HL10.out (Kd.F_below HF10.out HB.out) (Nat.le_refl _) (Kd.F_nil _ _ _)); (case aK => exact fun k_ hk_ => ⟨trivial, fun e_ => by have h1 := Kd.N_base HO.out k_ e_.symm; omega⟩); (case aF => exact fun _ _ => trivial); (case aO => exact Kd.N_mono HO.out (fun _ _ => trivial)); (case aB => exact HB.out); (case aS => exact HB.out.size); (case aL => have := HLO.out; omega); intro v12 w12 ho hb hg hat; have HO12 := zae.mk ho; have HB12 := zae.mk hb; clear ho hb hg hat HO HB BO)
          go_roundg k1
          case measure => omega
          case rel => exact ⟨i + 1, out ++ [(⟨x.f1, x.f3, x.f4, x.f5, x.f6, [], i, -1⟩ : S41)], rfl, ⟨by omega⟩, HA, ⟨by have := HLO.out; simp only [List.length_append, List.length_singleton]; omega⟩, HO12, HB12⟩
       ·rw [if_neg c5] at H4
        cases H4
      ·have H4 := HA3.out
       rw [if_neg c4] at H4
       have q4 : decide (0 ≤ q) = false := decide_eq_false c4
       clear c4 HA3
       obtain rfl := Option.some.inj H4
       clear H4
       go_upto_region 13 with ((with_reducible refine za3 (f := 24) rfl ?_); refine zbv (some 35) rfl rfl Tryd.func24 (by kernel_rfl) rfl #[.slice (some ad) l.length c0, .int .i64 i] rfl (by (try simp only [List.map_toArray, List.map_cons, List.map_nil]); first | done | rfl) ?_; (with_reducible refine (zbh.calls k _ _ l i q _ ?s1 ?s2 AQ.out).mono ?_); (case s1 => exact Kd.zbk HR0.out HB.out); (case s2 => exact HC0.out); rintro e w' ⟨rfl, ⟨nd, rfl⟩⟩; refine ⟨_, rfl, ?_⟩)
       refine zcn (G := fun W => Code.wp _ _ _ _ W) _ (fun W11 hW11 => ?_)
       have BO1 := zae.mk (show W11.heap[go]? = some (.cells #[.int .i64 x.f1.f0, .int .i64 x.f1.f1, .string x.f1.f2, .int .i64 x.f3, .int .i64 x.f4.f0, .int .i64 x.f4.f1, .string x.f4.f2, .int .i64 x.f5, .slice A10 x.f6.length c10, .slice none 0 0, .int .i64 i, .int .i64 (-1)] 41 (0, 0)) by rw [hW11]; exact zai BO.out nd)
       have HB1 := zae.mk (show Below w.heap.size w W11 by rw [hW11]; exact zaa HB.out nd)
       have HO1 := zae.mk (show Kd.N k41 41 W11 w.heap.size (fun k => k < n0) u3 out by rw [hW11]; exact Kd.N_drewN HO.out nd)
       clear hW11 BO HB HO
       have BO := BO1
       have HB := HB1
       have HO := HO1
       clear BO1 HB1 HO1
       have t0 : W11.cell? ⟨go, 0, none⟩ = some (.int .i64 x.f1.f0) := (zaf BO.out 0).trans rfl
       have t1 : W11.cell? ⟨go, 1, none⟩ = some (.int .i64 x.f1.f1) := (zaf BO.out 1).trans rfl
       have t2 : W11.cell? ⟨go, 2, none⟩ = some (.string x.f1.f2) := (zaf BO.out 2).trans rfl
       have t3 : W11.cell? ⟨go, 3, none⟩ = some (.int .i64 x.f3) := (zaf BO.out 3).trans rfl
       have t4 : W11.cell? ⟨go, 4, none⟩ = some (.int .i64 x.f4.f0) := (zaf BO.out 4).trans rfl
       have t5 : W11.cell? ⟨go, 5, none⟩ = some (.int .i64 x.f4.f1) := (zaf BO.out 5).trans rfl
       have t6 : W11.cell? ⟨go, 6, none⟩ = some (.string x.f4.f2) := (zaf BO.out 6).trans rfl
       have t7 : W11.cell? ⟨go, 7, none⟩ = some (.int .i64 x.f5) := (zaf BO.out 7).trans rfl
       have t8 : W11.cell? ⟨go, 8, none⟩ = some (.slice A10 x.f6.length c10) := (zaf BO.out 8).trans rfl
       have t9 : W11.cell? ⟨go, 9, none⟩ = some (.slice none 0 0) := (zaf BO.out 9).trans rfl
       have t10 : W11.cell? ⟨go, 10, none⟩ = some (.int .i64 i) := (zaf BO.out 10).trans rfl
       have t11 : W11.cell? ⟨go, 11, none⟩ = some (.int .i64 (-1)) := (zaf BO.out 11).trans rfl
       go_wp2_with ((with_reducible refine zcj (b := .append) (xs := #[.tmp 64, .tmp 66]) rfl ?_); at_builtin; refine Kd.N_append k41 (w0 := w) w.heap.size rfl (.tmp 64) (.tmp 66) 32 41 (.agg #[(.int .i64 0), (.int .i64 0), (.string ⟨#[]⟩), (.int .i64 0), (.int .i64 0), (.int .i64 0), (.string ⟨#[]⟩), (.int .i64 0), (.slice none 0 0), (.slice none 0 0), (.int .i64 0), (.int .i64 0)]) 144 rfl Tryd.underlying32 info41 rfl (by decide) (by omega) u3 out (⟨x.f1, x.f3, x.f4, x.f5, x.f6, [], i, -1⟩ : S41) [.int .i64 x.f1.f0, .int .i64 x.f1.f1, .string x.f1.f2, .int .i64 x.f3, .int .i64 x.f4.f0, .int .i64 x.f4.f1, .string x.f4.f2, .int .i64 x.f5, .slice A10 x.f6.length c10, .slice none 0 0, .int .i64 i, .int .i64 (-1)] (fun _ => True) (fun k_ => k_ < w.heap.size) rfl rfl ?aP ?aK ?aF ?aO ?aB ?aS ?aL ?_; (case aP => exact k41_mkF _ _ (⟨x.f1, x.f3, x.f4, x.f5, x.f6, [], i, -1⟩ : S41) HL10.out (Kd.F_below HF10.out HB.out) (Nat.le_refl _) (Kd.F_nil _ _ _)); (case aK => exact fun k_ hk_ => ⟨trivial, fun e_ => by have h1 := Kd.N_base HO.out k_ e_.symm; omega⟩); (case aF => exact fun _ _ => trivial); (case aO => exact Kd.N_mono HO.out (fun _ _ => trivial)); (case aB => exact HB.out); (case aS => exact HB.out.size); (case aL => have := HLO.out; omega); intro v12 w12 ho hb hg hat; have HO12 := zae.mk ho; have HB12 := zae.mk hb; clear ho hb hg hat HO HB BO)
       go_roundg k1
       case measure => omega
       case rel => exact ⟨i + 1, out ++ [(⟨x.f1, x.f3, x.f4, x.f5, x.f6, [], i, -1⟩ : S41)], rfl, ⟨by omega⟩, HA, ⟨by have := HLO.out; simp only [List.length_append, List.length_singleton]; omega⟩, HO12, HB12⟩
     ·have H3 := HA3.out
      rw [if_neg c3] at H3
      have q3 : (x.f2 == 1) = false := beq_eq_false_iff_ne.mpr c3
      have q3' : (x.f2 != 1) = true := bne_iff_ne.mpr c3
      clear c3 HA3
      obtain rfl := Option.some.inj H3
      have HA2 : zae (refL k l k1 (i + 1) out = some r1) := ⟨by have := HA.out; rwa [List.append_nil] at this⟩
      clear HA H3
      go_wp2
      go_roundg k1
      case measure => omega
      case rel => exact ⟨i + 1, out, rfl, ⟨by omega⟩, HA2, ⟨by have := HLO.out; omega⟩, ⟨Kd.N_mono HO.out (fun _ _ => trivial)⟩, HB⟩
    ·rw [if_neg c2] at H
     have c2b0 : decide (i < (l.length : Int)) = false := decide_eq_false c2
     clear c2
     obtain rfl := Option.some.inj H
     obtain ⟨Av, cv, ev, hcv, hC⟩ := Kd.N_reads HO.out
     subst ev
     have HCV := zae.mk (And.intro hcv hC)
     clear hcv hC
     go_wp2
     go_ret
     exact ⟨Av, cv, rfl, HCV.out.1, HCV.out.2, HB.out⟩
 ·rw [if_neg hl] at h
  cases h
end Go.Proofs.YtikmmigfdchcpaaDoor.PP
