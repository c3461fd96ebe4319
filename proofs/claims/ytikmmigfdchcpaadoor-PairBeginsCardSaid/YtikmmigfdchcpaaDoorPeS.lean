/-
  Proved: a part of the proof of the claim's statement (text S of it).
  Conditions: none of ours.
-/
import Derived.Test.YtikmmigfdchcpaaDoorPeQ0
import Derived.Test.YtikmmigfdchcpaaDoorPeC
import Derived.Test.YtikmmigfdchcpaaDoorPeM
import Derived.Test.YtikmmigfdchcpaaDoorPeQ21
import Derived.Test.YtikmmigfdchcpaaDoorPeQ23
import Derived.Test.YtikmmigfdchcpaaDoorPeQ17
namespace Go.Proofs.YtikmmigfdchcpaaDoor.PP
open Go.RowKit Go.Proofs.YtikmmigfdchcpaaDoorW.PrintWords Go.Proofs.YtikmmigfdchcpaaDoorW.PrintLast Go.Proofs.YtikmmigfdchcpaaDoorW.PrintMore
set_option linter.unusedVariables false
set_option linter.unusedSimpArgs false
noncomputable def zb7 (k : Nat) (l : List S47) (i : Int) (x : S47) (s : St) : Option (Int × St) :=
 if x.f2 = 1 then
  (if (s.busy (zbd x.f1)).isSome = true then some (4, s) else if (s.lost (zbd x.f1)).isSome = true then some (4, s)
   else some (0, ⟨upd s.busy (zbd x.f1) (some i), s.lost, x.f0, s.gone, s.ends⟩))
 else if (s.busy (zbd x.f1)).isSome = true then
  (if 0 ≤ (s.busy (zbd x.f1)).getD 0 ∧ (s.busy (zbd x.f1)).getD 0 < (l.length : Int) ∧ (s.busy (zbd x.f1)).getD 0 < (s.ends.length : Int) then
   (if x.f2 = 2 then (zbf.f k (zav l ((s.busy (zbd x.f1)).getD 0)).f3 (zav l ((s.busy (zbd x.f1)).getD 0)).f5 x.f7).bind fun r =>
     if r.2 = true then some (0, ⟨upd s.busy (zbd x.f1) none, s.lost, x.f0, s.gone, s.ends.set ((s.busy (zbd x.f1)).getD 0).toNat i⟩) else some (4, s)
    else if x.f2 = 3 then (if s.gone.length < 1000 then some (0, ⟨upd s.busy (zbd x.f1) none, s.lost, x.f0, s.gone ++ [(s.busy (zbd x.f1)).getD 0], s.ends⟩) else none)
    else some (0, ⟨upd s.busy (zbd x.f1) none, upd s.lost (zbd x.f1) (some i), x.f0, s.gone, s.ends⟩))
   else none)
 else some (4, s)
noncomputable def stepF (k : Nat) (l : List S47) (i : Int) (s : St) : Option (Int × St) :=
 if 0 ≤ i ∧ i < (l.length : Int) ∧ i < 4096 then
  (zar.f k (zav l i).f0 (zav l i).f1.f0 (zav l i).f1.f1 (zav l i).f1.f2 (zav l i).f2 (zav l i).f3 (zav l i).f4.f0 (zav l i).f4.f1 (zav l i).f4.f2 (zav l i).f5 (zav l i).f6 (zav l i).f7 (zav l i).f8 (zav l i).f9).bind fun ok =>
   if ok = true then (if (zav l i).f0 < s.last then some (4, s) else if keyOk (zav l i).f1 = true then zb7 k l i (zav l i) s else none) else some (2, s)
 else none
theorem put14 {w : World} {g : Nat} {t : TypeId} {a0 a1 a2 a3 a4 a5 a6 a7 a8 a9 a10 a11 a12 a13 u0 u1 u2 u3 u4 u5 u6 u7 u8 u9 u10 u11 u12 u13 : Value} (h : w.heap[g]? = some (.cells #[a0, a1, a2, a3, a4, a5, a6, a7, a8, a9, a10, a11, a12, a13] t (0, 0))) : ((((((((((((((w.setCell ⟨g, 0, none⟩ u0).setCell ⟨g, 1, none⟩ u1).setCell ⟨g, 2, none⟩ u2).setCell ⟨g, 3, none⟩ u3).setCell ⟨g, 4, none⟩ u4).setCell ⟨g, 5, none⟩ u5).setCell ⟨g, 6, none⟩ u6).setCell ⟨g, 7, none⟩ u7).setCell ⟨g, 8, none⟩ u8).setCell ⟨g, 9, none⟩ u9).setCell ⟨g, 10, none⟩ u10).setCell ⟨g, 11, none⟩ u11).setCell ⟨g, 12, none⟩ u12).setCell ⟨g, 13, none⟩ u13).heap[g]? = some (.cells #[u0, u1, u2, u3, u4, u5, u6, u7, u8, u9, u10, u11, u12, u13] t (0, 0)) := by
 refine zaz (cs := #[u0, u1, u2, u3, u4, u5, u6, u7, u8, u9, u10, u11, u12, a13]) ?_ 13 _ rfl
 refine zaz (cs := #[u0, u1, u2, u3, u4, u5, u6, u7, u8, u9, u10, u11, a12, a13]) ?_ 12 _ rfl
 refine zaz (cs := #[u0, u1, u2, u3, u4, u5, u6, u7, u8, u9, u10, a11, a12, a13]) ?_ 11 _ rfl
 refine zaz (cs := #[u0, u1, u2, u3, u4, u5, u6, u7, u8, u9, a10, a11, a12, a13]) ?_ 10 _ rfl
 refine zaz (cs := #[u0, u1, u2, u3, u4, u5, u6, u7, u8, a9, a10, a11, a12, a13]) ?_ 9 _ rfl
 refine zaz (cs := #[u0, u1, u2, u3, u4, u5, u6, u7, a8, a9, a10, a11, a12, a13]) ?_ 8 _ rfl
 refine zaz (cs := #[u0, u1, u2, u3, u4, u5, u6, a7, a8, a9, a10, a11, a12, a13]) ?_ 7 _ rfl
 refine zaz (cs := #[u0, u1, u2, u3, u4, u5, a6, a7, a8, a9, a10, a11, a12, a13]) ?_ 6 _ rfl
 refine zaz (cs := #[u0, u1, u2, u3, u4, a5, a6, a7, a8, a9, a10, a11, a12, a13]) ?_ 5 _ rfl
 refine zaz (cs := #[u0, u1, u2, u3, a4, a5, a6, a7, a8, a9, a10, a11, a12, a13]) ?_ 4 _ rfl
 refine zaz (cs := #[u0, u1, u2, a3, a4, a5, a6, a7, a8, a9, a10, a11, a12, a13]) ?_ 3 _ rfl
 refine zaz (cs := #[u0, u1, a2, a3, a4, a5, a6, a7, a8, a9, a10, a11, a12, a13]) ?_ 2 _ rfl
 refine zaz (cs := #[u0, a1, a2, a3, a4, a5, a6, a7, a8, a9, a10, a11, a12, a13]) ?_ 1 _ rfl
 refine zaz (cs := #[a0, a1, a2, a3, a4, a5, a6, a7, a8, a9, a10, a11, a12, a13]) ?_ 0 _ rfl
 exact h
set_option maxHeartbeats 8000000 in
set_option maxRecDepth 100000 in
theorem see.calls (k : Nat) (w0 w : World) (A0 : Option Addr) (c0 : Nat) (l : List S47) (i : Int) (g bm lm n1 n2 : Nat) (vg ve : Value) (s : St) (e0 : Int) (s' : St) (hG : Glob w0) (hr0 : Kd.C k47 w0 A0 l.length l) (hc0 : l.length ≤ c0)
  (hB : Below w0.heap.size w0 w) (hC : Cl w w0.heap.size g bm lm n1 n2 vg ve s) (hn1 : n1 ≤ 10000) (hn2 : n2 ≤ 10000) (h : stepF k l i s = some (e0, s')) :
  Calls Tryd.prog 28 #[.pointer (some ⟨g, 0, none⟩), .slice A0 l.length c0, .int .i64 i] w fun e w' => e = .returned (.int .i64 e0) ∧ Below w0.heap.size w0 w' ∧ (e0 = 0 → ∃ n1' n2' vg' ve', n1' ≤ n1 + 1 ∧ n2' ≤ n2 + 1 ∧ Cl w' w0.heap.size g bm lm n1' n2' vg' ve' s') := by
 have hu47 := Tryd.underlying47
 have hu58 := Tryd.underlying58
 have hu38 := Tryd.underlying38
 unfold stepF at h
 by_cases c1 : 0 ≤ i ∧ i < (l.length : Int) ∧ i < 4096
 ·rw [if_pos c1] at h
  obtain ⟨x, hx⟩ : ∃ x, x = zav l i := ⟨_, rfl⟩
  obtain ⟨ad, A10, c10, A11, c11, ea, hx0, hx1, hx2, hx3, hx4, hx5, hx6, hx7, hx8, hx9, hx10, hx11, hx12, hx13, hl10, hi10, hl11, hi11⟩ := at_T47 hr0 i c1.1 c1.2.1
  cases ea
  rw [← hx] at h hx0 hx1 hx2 hx3 hx4 hx5 hx6 hx7 hx8 hx9 hx10 hx11 hx12 hx13 hl10 hi10 hl11 hi11
  clear hx
  replace hx0 := zaf hB hx0
  replace hx1 := zaf hB hx1
  replace hx2 := zaf hB hx2
  replace hx3 := zaf hB hx3
  replace hx4 := zaf hB hx4
  replace hx5 := zaf hB hx5
  replace hx6 := zaf hB hx6
  replace hx7 := zaf hB hx7
  replace hx8 := zaf hB hx8
  replace hx9 := zaf hB hx9
  replace hx10 := zaf hB hx10
  replace hx11 := zaf hB hx11
  replace hx12 := zaf hB hx12
  replace hx13 := zaf hB hx13
  have HR0 := zab.mk hr0
  have HC0 := zab.mk hc0
  have HR10 := zab.mk hi10
  have HC10 := zab.mk hl10
  have HR11 := zab.mk hi11
  have HC11 := zab.mk hl11
  have HG := zab.mk hG
  have HB := zab.mk hB
  have HC := zab.mk hC
  have HN1 := zab.mk hn1
  have HN2 := zab.mk hn2
  have p0 := eq_true c1.1
  have q0 := eq_true c1.2.1
  have q1 : decide (4096 ≤ i) = false := decide_eq_false (by omega)
  have CI := zab.mk c1
  clear hr0 hc0 hi10 hl10 hi11 hl11 hG hB hC hn1 hn2 c1
  replace h := Option.bind_eq_some_iff.mp h
  obtain ⟨ok, A1, H⟩ := h
  have AR := zab.mk A1
  clear A1
  have H : (if ok = true then (if x.f0 < s.last then some (4, s) else if keyOk x.f1 = true then zb7 k l i x s else none) else some (2, s)) = some (e0, s') := H
  have HH := zab.mk H
  clear H
  cases ok with
  | false =>
   have H : some ((2 : Int), s) = some (e0, s') := HH.out
   clear HH
   simp only [Option.some.injEq, Prod.mk.injEq] at H
   obtain ⟨rfl, rfl⟩ := H
   go_enter Tryd.func28, Tryd.ntmps28
   go_wp2_with (first
   | ((with_reducible refine za2 (N := 7) rfl ?_); refine zay ?hg (N := 7) ?hd (cs := #[.int .i64 0, .int .i64 0, .int .i64 0, .string (⟨#[]⟩ : ByteArray), .int .i64 0, .int .i64 0, .int .i64 0, .int .i64 0, .string (⟨#[]⟩ : ByteArray), .int .i64 0, .slice none 0 0, .slice none 0 0, .bool false, .string (⟨#[]⟩ : ByteArray)]) (t := 47) ?hr ?_; (case hd => rfl); (case hg => rfl); (case hr => first | (go_simp; done) | (go_simp; rfl)); intro gx hg w2 hbox hb; have HI := zab.mk hb; have BX := zab.mk hbox; have GX := zab.mk (show w.heap.size ≤ gx from Nat.le_of_eq hg.symm); clear hbox hb hg; have hz0 : w2.cell? ⟨gx, 0, none⟩ = some (.int .i64 0) := (zae BX.out 0).trans rfl; have hf0 := zah BX.out 0; have hz1 : w2.cell? ⟨gx, 1, none⟩ = some (.int .i64 0) := (zae BX.out 1).trans rfl; have hf1 := zah BX.out 1; have hz2 : w2.cell? ⟨gx, 2, none⟩ = some (.int .i64 0) := (zae BX.out 2).trans rfl; have hf2 := zah BX.out 2; have hz3 : w2.cell? ⟨gx, 3, none⟩ = some (.string (⟨#[]⟩ : ByteArray)) := (zae BX.out 3).trans rfl; have hf3 := zah BX.out 3; have hz4 : w2.cell? ⟨gx, 4, none⟩ = some (.int .i64 0) := (zae BX.out 4).trans rfl; have hf4 := zah BX.out 4; have hz5 : w2.cell? ⟨gx, 5, none⟩ = some (.int .i64 0) := (zae BX.out 5).trans rfl; have hf5 := zah BX.out 5; have hz6 : w2.cell? ⟨gx, 6, none⟩ = some (.int .i64 0) := (zae BX.out 6).trans rfl; have hf6 := zah BX.out 6; have hz7 : w2.cell? ⟨gx, 7, none⟩ = some (.int .i64 0) := (zae BX.out 7).trans rfl; have hf7 := zah BX.out 7; have hz8 : w2.cell? ⟨gx, 8, none⟩ = some (.string (⟨#[]⟩ : ByteArray)) := (zae BX.out 8).trans rfl; have hf8 := zah BX.out 8; have hz9 : w2.cell? ⟨gx, 9, none⟩ = some (.int .i64 0) := (zae BX.out 9).trans rfl; have hf9 := zah BX.out 9; have hz10 : w2.cell? ⟨gx, 10, none⟩ = some (.slice none 0 0) := (zae BX.out 10).trans rfl; have hf10 := zah BX.out 10; have hz11 : w2.cell? ⟨gx, 11, none⟩ = some (.slice none 0 0) := (zae BX.out 11).trans rfl; have hf11 := zah BX.out 11; have hz12 : w2.cell? ⟨gx, 12, none⟩ = some (.bool false) := (zae BX.out 12).trans rfl; have hf12 := zah BX.out 12; have hz13 : w2.cell? ⟨gx, 13, none⟩ = some (.string (⟨#[]⟩ : ByteArray)) := (zae BX.out 13).trans rfl; have hf13 := zah BX.out 13)
   | ((with_reducible refine za6 (f := 33) rfl ?_); refine zbo (some 23) rfl rfl Tryd.func33 (by kernel_rfl) rfl #[.agg #[.int .i64 x.f0, .int .i64 x.f1.f0, .int .i64 x.f1.f1, .string x.f1.f2, .int .i64 x.f2, .int .i64 x.f3, .int .i64 x.f4.f0, .int .i64 x.f4.f1, .string x.f4.f2, .int .i64 x.f5, .slice A10 x.f6.length c10, .slice A11 x.f7.length c11, .bool x.f8, .string x.f9]] rfl (by (try simp only [List.map_toArray, List.map_cons, List.map_nil]); first | done | rfl) ?_; (with_reducible refine (zar.calls k x.f0 x.f1.f0 x.f1.f1 x.f1.f2 x.f2 x.f3 x.f4.f0 x.f4.f1 x.f4.f2 x.f5 A10 c10 x.f6 A11 c11 x.f7 x.f8 x.f9 _ _ ?s0 ?s1 ?s2 ?s3 ?s4 AR.out).mono ?_); (case s0 => exact za7 HG.out (za1 HB.out HB.out.size (by (with_reducible repeat (first | exact HI.out | refine zag ?_ GX.out))))); (case s1 => exact Kd.za9 HR10.out (za1 HB.out HB.out.size (by (with_reducible repeat (first | exact HI.out | refine zag ?_ GX.out))))); (case s2 => exact HC10.out); (case s3 => exact Kd.za9 HR11.out (za1 HB.out HB.out.size (by (with_reducible repeat (first | exact HI.out | refine zag ?_ GX.out))))); (case s4 => exact HC11.out); rintro e w3 ⟨rfl, hb⟩; refine ⟨_, rfl, ?_⟩; have BXn := zab.mk (zaw (put14 BX.out) hb); have HIn := zab.mk (zal (by (with_reducible repeat (first | exact HI.out | refine zag ?_ GX.out))) hb); clear BX HI hb; have BX := BXn; have HI := HIn; clear BXn HIn; have BG := zab.mk (HC.out.below HI.out).blk; have y0 : w3.cell? ⟨gx, 0, none⟩ = some (.int .i64 x.f0) := (zae BX.out 0).trans rfl; have y1 : w3.cell? ⟨gx, 1, none⟩ = some (.int .i64 x.f1.f0) := (zae BX.out 1).trans rfl; have y2 : w3.cell? ⟨gx, 2, none⟩ = some (.int .i64 x.f1.f1) := (zae BX.out 2).trans rfl; have y3 : w3.cell? ⟨gx, 3, none⟩ = some (.string x.f1.f2) := (zae BX.out 3).trans rfl; have y4 : w3.cell? ⟨gx, 4, none⟩ = some (.int .i64 x.f2) := (zae BX.out 4).trans rfl; have y5 : w3.cell? ⟨gx, 5, none⟩ = some (.int .i64 x.f3) := (zae BX.out 5).trans rfl; have y6 : w3.cell? ⟨gx, 6, none⟩ = some (.int .i64 x.f4.f0) := (zae BX.out 6).trans rfl; have y7 : w3.cell? ⟨gx, 7, none⟩ = some (.int .i64 x.f4.f1) := (zae BX.out 7).trans rfl; have y8 : w3.cell? ⟨gx, 8, none⟩ = some (.string x.f4.f2) := (zae BX.out 8).trans rfl; have y9 : w3.cell? ⟨gx, 9, none⟩ = some (.int .i64 x.f5) := (zae BX.out 9).trans rfl; have y10 : w3.cell? ⟨gx, 10, none⟩ = some (.slice A10 x.f6.length c10) := (zae BX.out 10).trans rfl; have y11 : w3.cell? ⟨gx, 11, none⟩ = some (.slice A11 x.f7.length c11) := (zae BX.out 11).trans rfl; have y12 : w3.cell? ⟨gx, 12, none⟩ = some (.bool x.f8) := (zae BX.out 12).trans rfl; have y13 : w3.cell? ⟨gx, 13, none⟩ = some (.string x.f9) := (zae BX.out 13).trans rfl; have v0 : w3.cell? ⟨g, 0, none⟩ = some (.map (some bm)) := (zae BG.out 0).trans rfl; have v1 : w3.cell? ⟨g, 1, none⟩ = some (.map (some lm)) := (zae BG.out 1).trans rfl; have v2 : w3.cell? ⟨g, 2, none⟩ = some (.int .i64 s.last) := (zae BG.out 2).trans rfl; have v3 : w3.cell? ⟨g, 3, none⟩ = some (vg) := (zae BG.out 3).trans rfl; have v4 : w3.cell? ⟨g, 4, none⟩ = some (ve) := (zae BG.out 4).trans rfl; have fv0 := zah BG.out 0; have fv1 := zah BG.out 1; have fv2 := zah BG.out 2; have fv3 := zah BG.out 3; have fv4 := zah BG.out 4))
   go_ret
   exact ⟨rfl, za1 HB.out HB.out.size HI.out, fun h => absurd h (by decide)⟩
  | true =>
   have H : (if x.f0 < s.last then some (4, s) else if keyOk x.f1 = true then zb7 k l i x s else none) = some (e0, s') := HH.out
   clear HH
   by_cases c2 : x.f0 < s.last
   ·rw [if_pos c2] at H
    have q2 : decide (x.f0 < s.last) = true := decide_eq_true c2
    clear c2
    simp only [Option.some.injEq, Prod.mk.injEq] at H
    obtain ⟨rfl, rfl⟩ := H
    go_enter Tryd.func28, Tryd.ntmps28
    go_wp2_with (first
   | ((with_reducible refine za2 (N := 7) rfl ?_); refine zay ?hg (N := 7) ?hd (cs := #[.int .i64 0, .int .i64 0, .int .i64 0, .string (⟨#[]⟩ : ByteArray), .int .i64 0, .int .i64 0, .int .i64 0, .int .i64 0, .string (⟨#[]⟩ : ByteArray), .int .i64 0, .slice none 0 0, .slice none 0 0, .bool false, .string (⟨#[]⟩ : ByteArray)]) (t := 47) ?hr ?_; (case hd => rfl); (case hg => rfl); (case hr => first | (go_simp; done) | (go_simp; rfl)); intro gx hg w2 hbox hb; have HI := zab.mk hb; have BX := zab.mk hbox; have GX := zab.mk (show w.heap.size ≤ gx from Nat.le_of_eq hg.symm); clear hbox hb hg; have hz0 : w2.cell? ⟨gx, 0, none⟩ = some (.int .i64 0) := (zae BX.out 0).trans rfl; have hf0 := zah BX.out 0; have hz1 : w2.cell? ⟨gx, 1, none⟩ = some (.int .i64 0) := (zae BX.out 1).trans rfl; have hf1 := zah BX.out 1; have hz2 : w2.cell? ⟨gx, 2, none⟩ = some (.int .i64 0) := (zae BX.out 2).trans rfl; have hf2 := zah BX.out 2; have hz3 : w2.cell? ⟨gx, 3, none⟩ = some (.string (⟨#[]⟩ : ByteArray)) := (zae BX.out 3).trans rfl; have hf3 := zah BX.out 3; have hz4 : w2.cell? ⟨gx, 4, none⟩ = some (.int .i64 0) := (zae BX.out 4).trans rfl; have hf4 := zah BX.out 4; have hz5 : w2.cell? ⟨gx, 5, none⟩ = some (.int .i64 0) := (zae BX.out 5).trans rfl; have hf5 := zah BX.out 5; have hz6 : w2.cell? ⟨gx, 6, none⟩ = some (.int .i64 0) := (zae BX.out 6).trans rfl; have hf6 := zah BX.out 6; have hz7 : w2.cell? ⟨gx, 7, none⟩ = some (.int .i64 0) := (zae BX.out 7).trans rfl; have hf7 := zah BX.out 7; have hz8 : w2.cell? ⟨gx, 8, none⟩ = some (.string (⟨#[]⟩ : ByteArray)) := (zae BX.out 8).trans rfl; have hf8 := zah BX.out 8; have hz9 : w2.cell? ⟨gx, 9, none⟩ = some (.int .i64 0) := (zae BX.out 9).trans rfl; have hf9 := zah BX.out 9; have hz10 : w2.cell? ⟨gx, 10, none⟩ = some (.slice none 0 0) := (zae BX.out 10).trans rfl; have hf10 := zah BX.out 10; have hz11 : w2.cell? ⟨gx, 11, none⟩ = some (.slice none 0 0) := (zae BX.out 11).trans rfl; have hf11 := zah BX.out 11; have hz12 : w2.cell? ⟨gx, 12, none⟩ = some (.bool false) := (zae BX.out 12).trans rfl; have hf12 := zah BX.out 12; have hz13 : w2.cell? ⟨gx, 13, none⟩ = some (.string (⟨#[]⟩ : ByteArray)) := (zae BX.out 13).trans rfl; have hf13 := zah BX.out 13)
   | ((with_reducible refine za6 (f := 33) rfl ?_); refine zbo (some 23) rfl rfl Tryd.func33 (by kernel_rfl) rfl #[.agg #[.int .i64 x.f0, .int .i64 x.f1.f0, .int .i64 x.f1.f1, .string x.f1.f2, .int .i64 x.f2, .int .i64 x.f3, .int .i64 x.f4.f0, .int .i64 x.f4.f1, .string x.f4.f2, .int .i64 x.f5, .slice A10 x.f6.length c10, .slice A11 x.f7.length c11, .bool x.f8, .string x.f9]] rfl (by (try simp only [List.map_toArray, List.map_cons, List.map_nil]); first | done | rfl) ?_; (with_reducible refine (zar.calls k x.f0 x.f1.f0 x.f1.f1 x.f1.f2 x.f2 x.f3 x.f4.f0 x.f4.f1 x.f4.f2 x.f5 A10 c10 x.f6 A11 c11 x.f7 x.f8 x.f9 _ _ ?s0 ?s1 ?s2 ?s3 ?s4 AR.out).mono ?_); (case s0 => exact za7 HG.out (za1 HB.out HB.out.size (by (with_reducible repeat (first | exact HI.out | refine zag ?_ GX.out))))); (case s1 => exact Kd.za9 HR10.out (za1 HB.out HB.out.size (by (with_reducible repeat (first | exact HI.out | refine zag ?_ GX.out))))); (case s2 => exact HC10.out); (case s3 => exact Kd.za9 HR11.out (za1 HB.out HB.out.size (by (with_reducible repeat (first | exact HI.out | refine zag ?_ GX.out))))); (case s4 => exact HC11.out); rintro e w3 ⟨rfl, hb⟩; refine ⟨_, rfl, ?_⟩; have BXn := zab.mk (zaw (put14 BX.out) hb); have HIn := zab.mk (zal (by (with_reducible repeat (first | exact HI.out | refine zag ?_ GX.out))) hb); clear BX HI hb; have BX := BXn; have HI := HIn; clear BXn HIn; have BG := zab.mk (HC.out.below HI.out).blk; have y0 : w3.cell? ⟨gx, 0, none⟩ = some (.int .i64 x.f0) := (zae BX.out 0).trans rfl; have y1 : w3.cell? ⟨gx, 1, none⟩ = some (.int .i64 x.f1.f0) := (zae BX.out 1).trans rfl; have y2 : w3.cell? ⟨gx, 2, none⟩ = some (.int .i64 x.f1.f1) := (zae BX.out 2).trans rfl; have y3 : w3.cell? ⟨gx, 3, none⟩ = some (.string x.f1.f2) := (zae BX.out 3).trans rfl; have y4 : w3.cell? ⟨gx, 4, none⟩ = some (.int .i64 x.f2) := (zae BX.out 4).trans rfl; have y5 : w3.cell? ⟨gx, 5, none⟩ = some (.int .i64 x.f3) := (zae BX.out 5).trans rfl; have y6 : w3.cell? ⟨gx, 6, none⟩ = some (.int .i64 x.f4.f0) := (zae BX.out 6).trans rfl; have y7 : w3.cell? ⟨gx, 7, none⟩ = some (.int .i64 x.f4.f1) := (zae BX.out 7).trans rfl; have y8 : w3.cell? ⟨gx, 8, none⟩ = some (.string x.f4.f2) := (zae BX.out 8).trans rfl; have y9 : w3.cell? ⟨gx, 9, none⟩ = some (.int .i64 x.f5) := (zae BX.out 9).trans rfl; have y10 : w3.cell? ⟨gx, 10, none⟩ = some (.slice A10 x.f6.length c10) := (zae BX.out 10).trans rfl; have y11 : w3.cell? ⟨gx, 11, none⟩ = some (.slice A11 x.f7.length c11) := (zae BX.out 11).trans rfl; have y12 : w3.cell? ⟨gx, 12, none⟩ = some (.bool x.f8) := (zae BX.out 12).trans rfl; have y13 : w3.cell? ⟨gx, 13, none⟩ = some (.string x.f9) := (zae BX.out 13).trans rfl; have v0 : w3.cell? ⟨g, 0, none⟩ = some (.map (some bm)) := (zae BG.out 0).trans rfl; have v1 : w3.cell? ⟨g, 1, none⟩ = some (.map (some lm)) := (zae BG.out 1).trans rfl; have v2 : w3.cell? ⟨g, 2, none⟩ = some (.int .i64 s.last) := (zae BG.out 2).trans rfl; have v3 : w3.cell? ⟨g, 3, none⟩ = some (vg) := (zae BG.out 3).trans rfl; have v4 : w3.cell? ⟨g, 4, none⟩ = some (ve) := (zae BG.out 4).trans rfl; have fv0 := zah BG.out 0; have fv1 := zah BG.out 1; have fv2 := zah BG.out 2; have fv3 := zah BG.out 3; have fv4 := zah BG.out 4))
    go_quiet (fail)
    go_wp2
    go_ret
    exact ⟨rfl, zaa (za1 HB.out HB.out.size HI.out) _, fun h => absurd h (by decide)⟩
   ·rw [if_neg c2] at H
    have q2 : decide (x.f0 < s.last) = false := decide_eq_false c2
    clear c2
    by_cases c3 : keyOk x.f1 = true
    ·rw [if_pos c3] at H
     have KO := zab.mk c3
     have HS := zab.mk H
     clear H c3
     go_enter Tryd.func28, Tryd.ntmps28
     go_wp2_with (first
   | ((with_reducible refine za2 (N := 7) rfl ?_); refine zay ?hg (N := 7) ?hd (cs := #[.int .i64 0, .int .i64 0, .int .i64 0, .string (⟨#[]⟩ : ByteArray), .int .i64 0, .int .i64 0, .int .i64 0, .int .i64 0, .string (⟨#[]⟩ : ByteArray), .int .i64 0, .slice none 0 0, .slice none 0 0, .bool false, .string (⟨#[]⟩ : ByteArray)]) (t := 47) ?hr ?_; (case hd => rfl); (case hg => rfl); (case hr => first | (go_simp; done) | (go_simp; rfl)); intro gx hg w2 hbox hb; have HI := zab.mk hb; have BX := zab.mk hbox; have GX := zab.mk (show w.heap.size ≤ gx from Nat.le_of_eq hg.symm); clear hbox hb hg; have hz0 : w2.cell? ⟨gx, 0, none⟩ = some (.int .i64 0) := (zae BX.out 0).trans rfl; have hf0 := zah BX.out 0; have hz1 : w2.cell? ⟨gx, 1, none⟩ = some (.int .i64 0) := (zae BX.out 1).trans rfl; have hf1 := zah BX.out 1; have hz2 : w2.cell? ⟨gx, 2, none⟩ = some (.int .i64 0) := (zae BX.out 2).trans rfl; have hf2 := zah BX.out 2; have hz3 : w2.cell? ⟨gx, 3, none⟩ = some (.string (⟨#[]⟩ : ByteArray)) := (zae BX.out 3).trans rfl; have hf3 := zah BX.out 3; have hz4 : w2.cell? ⟨gx, 4, none⟩ = some (.int .i64 0) := (zae BX.out 4).trans rfl; have hf4 := zah BX.out 4; have hz5 : w2.cell? ⟨gx, 5, none⟩ = some (.int .i64 0) := (zae BX.out 5).trans rfl; have hf5 := zah BX.out 5; have hz6 : w2.cell? ⟨gx, 6, none⟩ = some (.int .i64 0) := (zae BX.out 6).trans rfl; have hf6 := zah BX.out 6; have hz7 : w2.cell? ⟨gx, 7, none⟩ = some (.int .i64 0) := (zae BX.out 7).trans rfl; have hf7 := zah BX.out 7; have hz8 : w2.cell? ⟨gx, 8, none⟩ = some (.string (⟨#[]⟩ : ByteArray)) := (zae BX.out 8).trans rfl; have hf8 := zah BX.out 8; have hz9 : w2.cell? ⟨gx, 9, none⟩ = some (.int .i64 0) := (zae BX.out 9).trans rfl; have hf9 := zah BX.out 9; have hz10 : w2.cell? ⟨gx, 10, none⟩ = some (.slice none 0 0) := (zae BX.out 10).trans rfl; have hf10 := zah BX.out 10; have hz11 : w2.cell? ⟨gx, 11, none⟩ = some (.slice none 0 0) := (zae BX.out 11).trans rfl; have hf11 := zah BX.out 11; have hz12 : w2.cell? ⟨gx, 12, none⟩ = some (.bool false) := (zae BX.out 12).trans rfl; have hf12 := zah BX.out 12; have hz13 : w2.cell? ⟨gx, 13, none⟩ = some (.string (⟨#[]⟩ : ByteArray)) := (zae BX.out 13).trans rfl; have hf13 := zah BX.out 13)
   | ((with_reducible refine za6 (f := 33) rfl ?_); refine zbo (some 23) rfl rfl Tryd.func33 (by kernel_rfl) rfl #[.agg #[.int .i64 x.f0, .int .i64 x.f1.f0, .int .i64 x.f1.f1, .string x.f1.f2, .int .i64 x.f2, .int .i64 x.f3, .int .i64 x.f4.f0, .int .i64 x.f4.f1, .string x.f4.f2, .int .i64 x.f5, .slice A10 x.f6.length c10, .slice A11 x.f7.length c11, .bool x.f8, .string x.f9]] rfl (by (try simp only [List.map_toArray, List.map_cons, List.map_nil]); first | done | rfl) ?_; (with_reducible refine (zar.calls k x.f0 x.f1.f0 x.f1.f1 x.f1.f2 x.f2 x.f3 x.f4.f0 x.f4.f1 x.f4.f2 x.f5 A10 c10 x.f6 A11 c11 x.f7 x.f8 x.f9 _ _ ?s0 ?s1 ?s2 ?s3 ?s4 AR.out).mono ?_); (case s0 => exact za7 HG.out (za1 HB.out HB.out.size (by (with_reducible repeat (first | exact HI.out | refine zag ?_ GX.out))))); (case s1 => exact Kd.za9 HR10.out (za1 HB.out HB.out.size (by (with_reducible repeat (first | exact HI.out | refine zag ?_ GX.out))))); (case s2 => exact HC10.out); (case s3 => exact Kd.za9 HR11.out (za1 HB.out HB.out.size (by (with_reducible repeat (first | exact HI.out | refine zag ?_ GX.out))))); (case s4 => exact HC11.out); rintro e w3 ⟨rfl, hb⟩; refine ⟨_, rfl, ?_⟩; have BXn := zab.mk (zaw (put14 BX.out) hb); have HIn := zab.mk (zal (by (with_reducible repeat (first | exact HI.out | refine zag ?_ GX.out))) hb); clear BX HI hb; have BX := BXn; have HI := HIn; clear BXn HIn; have BG := zab.mk (HC.out.below HI.out).blk; have y0 : w3.cell? ⟨gx, 0, none⟩ = some (.int .i64 x.f0) := (zae BX.out 0).trans rfl; have y1 : w3.cell? ⟨gx, 1, none⟩ = some (.int .i64 x.f1.f0) := (zae BX.out 1).trans rfl; have y2 : w3.cell? ⟨gx, 2, none⟩ = some (.int .i64 x.f1.f1) := (zae BX.out 2).trans rfl; have y3 : w3.cell? ⟨gx, 3, none⟩ = some (.string x.f1.f2) := (zae BX.out 3).trans rfl; have y4 : w3.cell? ⟨gx, 4, none⟩ = some (.int .i64 x.f2) := (zae BX.out 4).trans rfl; have y5 : w3.cell? ⟨gx, 5, none⟩ = some (.int .i64 x.f3) := (zae BX.out 5).trans rfl; have y6 : w3.cell? ⟨gx, 6, none⟩ = some (.int .i64 x.f4.f0) := (zae BX.out 6).trans rfl; have y7 : w3.cell? ⟨gx, 7, none⟩ = some (.int .i64 x.f4.f1) := (zae BX.out 7).trans rfl; have y8 : w3.cell? ⟨gx, 8, none⟩ = some (.string x.f4.f2) := (zae BX.out 8).trans rfl; have y9 : w3.cell? ⟨gx, 9, none⟩ = some (.int .i64 x.f5) := (zae BX.out 9).trans rfl; have y10 : w3.cell? ⟨gx, 10, none⟩ = some (.slice A10 x.f6.length c10) := (zae BX.out 10).trans rfl; have y11 : w3.cell? ⟨gx, 11, none⟩ = some (.slice A11 x.f7.length c11) := (zae BX.out 11).trans rfl; have y12 : w3.cell? ⟨gx, 12, none⟩ = some (.bool x.f8) := (zae BX.out 12).trans rfl; have y13 : w3.cell? ⟨gx, 13, none⟩ = some (.string x.f9) := (zae BX.out 13).trans rfl; have v0 : w3.cell? ⟨g, 0, none⟩ = some (.map (some bm)) := (zae BG.out 0).trans rfl; have v1 : w3.cell? ⟨g, 1, none⟩ = some (.map (some lm)) := (zae BG.out 1).trans rfl; have v2 : w3.cell? ⟨g, 2, none⟩ = some (.int .i64 s.last) := (zae BG.out 2).trans rfl; have v3 : w3.cell? ⟨g, 3, none⟩ = some (vg) := (zae BG.out 3).trans rfl; have v4 : w3.cell? ⟨g, 4, none⟩ = some (ve) := (zae BG.out 4).trans rfl; have fv0 := zah BG.out 0; have fv1 := zah BG.out 1; have fv2 := zah BG.out 2; have fv3 := zah BG.out 3; have fv4 := zah BG.out 4))
     go_quiet (fail)
     go_upto_region 9 with (fail)
     refine zb0 (G := fun W => Code.wp _ _ _ _ W) _ (fun W4 hW4 => ?_)
     have GN := zab.mk (show gx ≠ g by have := zbp HC.out.blk; have := GX.out; omega)
     have C4 := zab.mk (show Cl W4 w0.heap.size g bm lm n1 n2 vg ve ⟨s.busy, s.lost, x.f0, s.gone, s.ends⟩ by rw [hW4]; exact ((HC.out.below HI.out).drewN nq).setLast x.f0)
     have BX4 := zab.mk (show W4.heap[gx]? = some (.cells #[.int .i64 x.f0, .int .i64 x.f1.f0, .int .i64 x.f1.f1, .string x.f1.f2, .int .i64 x.f2, .int .i64 x.f3, .int .i64 x.f4.f0, .int .i64 x.f4.f1, .string x.f4.f2, .int .i64 x.f5, .slice A10 x.f6.length c10, .slice A11 x.f7.length c11, .bool x.f8, .string x.f9] 47 (0, 0)) by rw [hW4]; exact blk_off (zaj BX.out nq) GN.out 2 _)
     have HB4 := zab.mk (show Below w0.heap.size w0 W4 by rw [hW4]; exact (zaa (za1 HB.out HB.out.size HI.out) nq).setCell HC.out.hg _)
     clear hW4 HC HI BX BG HB y0 y1 y2 y3 y4 y5 y6 y7 y8 y9 y10 y11 y12 y13 v0 v1 v2 v3 v4 fv0 fv1 fv2 fv3 fv4 hz0 hz1 hz2 hz3 hz4 hz5 hz6 hz7 hz8 hz9 hz10 hz11 hz12 hz13 hf0 hf1 hf2 hf3 hf4 hf5 hf6 hf7 hf8 hf9 hf10 hf11 hf12 hf13
     have HB := HB4
     have HC := C4
     have BX := BX4
     have BG := zab.mk HC.out.blk
     clear HB4 C4 BX4 w3 w2 nq
     have y0 : W4.cell? ⟨gx, 0, none⟩ = some (.int .i64 x.f0) := (zae BX.out 0).trans rfl
     have y1 : W4.cell? ⟨gx, 1, none⟩ = some (.int .i64 x.f1.f0) := (zae BX.out 1).trans rfl
     have y2 : W4.cell? ⟨gx, 2, none⟩ = some (.int .i64 x.f1.f1) := (zae BX.out 2).trans rfl
     have y3 : W4.cell? ⟨gx, 3, none⟩ = some (.string x.f1.f2) := (zae BX.out 3).trans rfl
     have y4 : W4.cell? ⟨gx, 4, none⟩ = some (.int .i64 x.f2) := (zae BX.out 4).trans rfl
     have y5 : W4.cell? ⟨gx, 5, none⟩ = some (.int .i64 x.f3) := (zae BX.out 5).trans rfl
     have y6 : W4.cell? ⟨gx, 6, none⟩ = some (.int .i64 x.f4.f0) := (zae BX.out 6).trans rfl
     have y7 : W4.cell? ⟨gx, 7, none⟩ = some (.int .i64 x.f4.f1) := (zae BX.out 7).trans rfl
     have y8 : W4.cell? ⟨gx, 8, none⟩ = some (.string x.f4.f2) := (zae BX.out 8).trans rfl
     have y9 : W4.cell? ⟨gx, 9, none⟩ = some (.int .i64 x.f5) := (zae BX.out 9).trans rfl
     have y10 : W4.cell? ⟨gx, 10, none⟩ = some (.slice A10 x.f6.length c10) := (zae BX.out 10).trans rfl
     have y11 : W4.cell? ⟨gx, 11, none⟩ = some (.slice A11 x.f7.length c11) := (zae BX.out 11).trans rfl
     have y12 : W4.cell? ⟨gx, 12, none⟩ = some (.bool x.f8) := (zae BX.out 12).trans rfl
     have y13 : W4.cell? ⟨gx, 13, none⟩ = some (.string x.f9) := (zae BX.out 13).trans rfl
     have v0 : W4.cell? ⟨g, 0, none⟩ = some (.map (some bm)) := (zae BG.out 0).trans rfl
     have v1 : W4.cell? ⟨g, 1, none⟩ = some (.map (some lm)) := (zae BG.out 1).trans rfl
     have v2 : W4.cell? ⟨g, 2, none⟩ = some (.int .i64 x.f0) := (zae BG.out 2).trans rfl
     have v3 : W4.cell? ⟨g, 3, none⟩ = some (vg) := (zae BG.out 3).trans rfl
     have v4 : W4.cell? ⟨g, 4, none⟩ = some (ve) := (zae BG.out 4).trans rfl
     obtain ⟨bv, hbv⟩ : ∃ v, v = (s.busy (zbd x.f1)).getD 0 := ⟨_, rfl⟩
     obtain ⟨bs, hbs⟩ : ∃ v, v = (s.busy (zbd x.f1)).isSome := ⟨_, rfl⟩
     obtain ⟨lv, hlv⟩ : ∃ v, v = (s.lost (zbd x.f1)).getD 0 := ⟨_, rfl⟩
     obtain ⟨ls, hls⟩ : ∃ v, v = (s.lost (zbd x.f1)).isSome := ⟨_, rfl⟩
     have lk := fun n => (HC.out.drewN n).busy.look KO.out
     simp only [← hbv, ← hbs] at lk
     have HS1 := HS.out
     unfold zb7 at HS1
     simp only [← hbv, ← hbs, ← hls] at HS1
     clear HS
     have BV := zab.mk hbv
     have BS := zab.mk hbs
     clear hbv hbs
     go_quiet (fail)
     clear lk
     refine zb0 (G := fun W => Exit.then _ _ _ _ W) (W4.drewN nq) (fun W5 hW5 => ?_)
     have C5 := zab.mk (show Cl W5 w0.heap.size g bm lm n1 n2 vg ve ⟨s.busy, s.lost, x.f0, s.gone, s.ends⟩ by rw [hW5]; exact HC.out.drewN nq)
     have BX5 := zab.mk (show W5.heap[gx]? = some (.cells #[.int .i64 x.f0, .int .i64 x.f1.f0, .int .i64 x.f1.f1, .string x.f1.f2, .int .i64 x.f2, .int .i64 x.f3, .int .i64 x.f4.f0, .int .i64 x.f4.f1, .string x.f4.f2, .int .i64 x.f5, .slice A10 x.f6.length c10, .slice A11 x.f7.length c11, .bool x.f8, .string x.f9] 47 (0, 0)) by rw [hW5]; exact zaj BX.out nq)
     have HB5 := zab.mk (show Below w0.heap.size w0 W5 by rw [hW5]; exact zaa HB.out nq)
     clear hW5 HC BX BG HB y0 y1 y2 y3 y4 y5 y6 y7 y8 y9 y10 y11 y12 y13 v0 v1 v2 v3 v4
     have HB := HB5
     have HC := C5
     have BX := BX5
     have BG := zab.mk HC.out.blk
     clear HB5 C5 BX5 W4 nq
     have y0 : W5.cell? ⟨gx, 0, none⟩ = some (.int .i64 x.f0) := (zae BX.out 0).trans rfl
     have y1 : W5.cell? ⟨gx, 1, none⟩ = some (.int .i64 x.f1.f0) := (zae BX.out 1).trans rfl
     have y2 : W5.cell? ⟨gx, 2, none⟩ = some (.int .i64 x.f1.f1) := (zae BX.out 2).trans rfl
     have y3 : W5.cell? ⟨gx, 3, none⟩ = some (.string x.f1.f2) := (zae BX.out 3).trans rfl
     have y4 : W5.cell? ⟨gx, 4, none⟩ = some (.int .i64 x.f2) := (zae BX.out 4).trans rfl
     have y5 : W5.cell? ⟨gx, 5, none⟩ = some (.int .i64 x.f3) := (zae BX.out 5).trans rfl
     have y6 : W5.cell? ⟨gx, 6, none⟩ = some (.int .i64 x.f4.f0) := (zae BX.out 6).trans rfl
     have y7 : W5.cell? ⟨gx, 7, none⟩ = some (.int .i64 x.f4.f1) := (zae BX.out 7).trans rfl
     have y8 : W5.cell? ⟨gx, 8, none⟩ = some (.string x.f4.f2) := (zae BX.out 8).trans rfl
     have y9 : W5.cell? ⟨gx, 9, none⟩ = some (.int .i64 x.f5) := (zae BX.out 9).trans rfl
     have y10 : W5.cell? ⟨gx, 10, none⟩ = some (.slice A10 x.f6.length c10) := (zae BX.out 10).trans rfl
     have y11 : W5.cell? ⟨gx, 11, none⟩ = some (.slice A11 x.f7.length c11) := (zae BX.out 11).trans rfl
     have y12 : W5.cell? ⟨gx, 12, none⟩ = some (.bool x.f8) := (zae BX.out 12).trans rfl
     have y13 : W5.cell? ⟨gx, 13, none⟩ = some (.string x.f9) := (zae BX.out 13).trans rfl
     have v0 : W5.cell? ⟨g, 0, none⟩ = some (.map (some bm)) := (zae BG.out 0).trans rfl
     have v1 : W5.cell? ⟨g, 1, none⟩ = some (.map (some lm)) := (zae BG.out 1).trans rfl
     have v2 : W5.cell? ⟨g, 2, none⟩ = some (.int .i64 x.f0) := (zae BG.out 2).trans rfl
     have v3 : W5.cell? ⟨g, 3, none⟩ = some (vg) := (zae BG.out 3).trans rfl
     have v4 : W5.cell? ⟨g, 4, none⟩ = some (ve) := (zae BG.out 4).trans rfl
     have lk2 := fun n => (HC.out.drewN n).lost.look KO.out
     simp only [← hlv, ← hls] at lk2
     clear hlv hls
     by_cases c4 : x.f2 = 1
     ·rw [if_pos c4] at HS1
      have q4 : (x.f2 == 1) = true := beq_iff_eq.mpr c4
      clear c4
      cases bs with
      | true =>
       rw [if_pos rfl] at HS1
       simp only [Option.some.injEq, Prod.mk.injEq] at HS1
       obtain ⟨rfl, rfl⟩ := HS1
       go_wp2
       go_quiet (fail)
       go_wp2
       go_ret
       first | exact ⟨rfl, (by first | exact HB.out | exact zaa HB.out _), fun h => absurd h (by decide)⟩ | exact ⟨rfl, (by first | exact HB.out | exact zaa HB.out _)⟩ | exact (by first | exact HB.out | exact zaa HB.out _)
      | false =>
       rw [if_neg (by decide)] at HS1
       cases ls with
       | true =>
        rw [if_pos rfl] at HS1
        simp only [Option.some.injEq, Prod.mk.injEq] at HS1
        obtain ⟨rfl, rfl⟩ := HS1
        go_wp2
        go_quiet (fail)
        go_wp2
        go_ret
        first | exact ⟨rfl, (by first | exact HB.out | exact zaa HB.out _), fun h => absurd h (by decide)⟩ | exact ⟨rfl, (by first | exact HB.out | exact zaa HB.out _)⟩ | exact (by first | exact HB.out | exact zaa HB.out _)
       | false =>
        rw [if_neg (by decide)] at HS1
        simp only [Option.some.injEq, Prod.mk.injEq] at HS1
        obtain ⟨rfl, rfl⟩ := HS1
        go_wp2
        go_quiet (fail)
        go_upto_region 14 with (fail)
        refine zb0 (G := fun W => Code.wp _ _ _ _ W) _ (fun W6 hW6 => ?_)
        have C6 := zab.mk (show Cl W6 w0.heap.size g bm lm n1 n2 vg ve ⟨s.busy, s.lost, x.f0, s.gone, s.ends⟩ by rw [hW6]; first | exact HC.out | exact HC.out.drewN _)
        have BX6 := zab.mk (show W6.heap[gx]? = some (.cells #[.int .i64 x.f0, .int .i64 x.f1.f0, .int .i64 x.f1.f1, .string x.f1.f2, .int .i64 x.f2, .int .i64 x.f3, .int .i64 x.f4.f0, .int .i64 x.f4.f1, .string x.f4.f2, .int .i64 x.f5, .slice A10 x.f6.length c10, .slice A11 x.f7.length c11, .bool x.f8, .string x.f9] 47 (0, 0)) by rw [hW6]; first | exact BX.out | exact zaj BX.out _)
        have HB6 := zab.mk (show Below w0.heap.size w0 W6 by rw [hW6]; first | exact HB.out | exact zaa HB.out _)
        have z0 : W6.cell? ⟨g, 0, none⟩ = some (.map (some bm)) := (zae C6.out.blk 0).trans rfl
        have z1 : W6.cell? ⟨gx, 1, none⟩ = some (.int .i64 x.f1.f0) := (zae BX6.out 1).trans rfl
        have z2 : W6.cell? ⟨gx, 2, none⟩ = some (.int .i64 x.f1.f1) := (zae BX6.out 2).trans rfl
        have z3 : W6.cell? ⟨gx, 3, none⟩ = some (.string x.f1.f2) := (zae BX6.out 3).trans rfl
        clear hW6
        refine start_ (n := 8) (ds := [7]) (S := fun w' => w'.cell? ⟨g, 0, none⟩ = some (.map (some bm)) ∧ w'.cell? ⟨gx, 1, none⟩ = some (.int .i64 x.f1.f0) ∧ w'.cell? ⟨gx, 2, none⟩ = some (.int .i64 x.f1.f1) ∧ w'.cell? ⟨gx, 3, none⟩ = some (.string x.f1.f2)) #[false, false, false, false, false, false, false, false] (by rfl) rfl rfl ⟨z0, z1, z2, z3⟩ (fun hHeld => ?_)
        refine pz_ 0 65 ?_ ?_ (bz 8 1) rfl rfl (by kernel_rfl) (fun _ _ _ h => h) (Or.inl ⟨by rfl, ?_⟩) ?_ ?_; rotate_left 2; (intro w'; go_simp; with_reducible rfl); (simp only [zps]; rfl)
        refine pz_ 1 66 ?_ ?_ (bz 8 3) rfl rfl (by kernel_rfl) (fun _ _ _ h => h) (Or.inl ⟨by rfl, ?_⟩) ?_ ?_; rotate_left 2; (intro w'; go_simp; with_reducible rfl); (simp only [zps]; rfl)
        refine pz_ 2 67 ?_ ?_ (bz 8 7) rfl rfl (by kernel_rfl) (fun _ _ _ h => h) (Or.inl ⟨by rfl, ?_⟩) ?_ ?_; rotate_left 2; (intro w'; go_simp; with_reducible rfl); (simp only [zps]; rfl)
        refine pz_ 4 69 ?_ ?_ (bz 8 23) rfl rfl (by kernel_rfl) (fun _ _ _ h => h) (Or.inl ⟨by rfl, ?_⟩) ?_ ?_; rotate_left 2; (intro w'; go_simp; with_reducible rfl); (simp only [zps]; rfl)
        refine pz_ 6 71 ?_ ?_ (bz 8 87) rfl rfl (by kernel_rfl) (fun _ _ _ h => h) (Or.inl ⟨by rfl, ?_⟩) ?_ ?_; rotate_left 2; (intro w'; go_simp; with_reducible rfl); (simp only [zps]; rfl)
        refine tz_ 3 68 ?_ ?_ (bz 8 95) rfl rfl (by kernel_rfl) (fun _ _ _ h => h) (Or.inl ⟨by rfl, ?_⟩) hHeld ?_ ?_; rotate_left 2; (rintro w' ⟨s0, s1, s2, s3⟩; go_simp; with_reducible rfl); (simp only [zps]; rfl)
        refine tz_ 5 70 ?_ ?_ (bz 8 127) rfl rfl (by kernel_rfl) (fun _ _ _ h => h) (Or.inl ⟨by rfl, ?_⟩) hHeld ?_ ?_; rotate_left 2; (rintro w' ⟨s0, s1, s2, s3⟩; go_simp; with_reducible rfl); (simp only [zps]; rfl)
        refine last_ (i := 7) (N := none) (bz 8 255) rfl rfl (by kernel_rfl) (by decide) (fun K hK => ?_)
        rw [if_pos (by rfl)]
        obtain ⟨W7, hr7, hM7, hg7⟩ := MapIs.store (w := W6.drew) (C6.out.busy.below (zb6 (Below.refl _ _))) (by have := HN1.out; unfold maxLen; omega) KO.out (v := i) (WalkArith.wf_i64 (by have := CI.out; omega))
        refine wp_store (.tmp 68) (.tmp 70) (.tmp 71) 56 rfl rfl rfl rfl hr7 ?_
        refine hK.out _ _ ?_
        have C7 := zab.mk ((C6.out.below (zb6 (Below.refl _ _))).turn hg7 hM7)
        have HB7 := zab.mk (pw_below_grown (zad HB6.out) _ (zad HB6.out).size hg7 (fun k_ hk_ => by have := Option.some.inj hk_; have := HC.out.hb; omega))
        refine norm_ (a' := ?_) ?_ ?_
        rotate_left
        ·simp only [Act.put, List.setIfInBounds_toArray, List.set_cons_zero, List.set_cons_succ]
         rfl
        refine done_ (by kernel_rfl) ?_
        go_wp2
        go_ret
        first | exact ⟨rfl, HB7.out, fun _ => ⟨_, _, vg, ve, Nat.le_refl _, Nat.le_succ _, C7.out⟩⟩ | exact ⟨rfl, HB7.out, _, Nat.le_refl _, _, Nat.le_succ _, vg, ve, C7.out⟩
     ·rw [if_neg c4] at HS1
      have q4 : (x.f2 == 1) = false := beq_eq_false_iff_ne.mpr c4
      clear c4
      cases bs with
      | false =>
       rw [if_neg (by decide)] at HS1
       simp only [Option.some.injEq, Prod.mk.injEq] at HS1
       obtain ⟨rfl, rfl⟩ := HS1
       go_wp2
       go_ret
       first | exact ⟨rfl, (by first | exact HB.out | exact zaa HB.out _), fun h => absurd h (by decide)⟩ | exact ⟨rfl, (by first | exact HB.out | exact zaa HB.out _)⟩ | exact (by first | exact HB.out | exact zaa HB.out _)
      | true =>
       rw [if_pos rfl] at HS1
       by_cases c5 : 0 ≤ bv ∧ bv < (l.length : Int) ∧ bv < (s.ends.length : Int)
       ·rw [if_pos c5] at HS1
        have HS2 := zab.mk HS1
        have C5v := zab.mk c5
        clear HS1 c5
        go_upto_region 18 with (fail)
        refine zb0 (G := fun W => Code.wp _ _ _ _ W) _ (fun W6 hW6 => ?_)
        have C6 := zab.mk (show Cl W6 w0.heap.size g bm lm n1 n2 vg ve ⟨s.busy, s.lost, x.f0, s.gone, s.ends⟩ by rw [hW6]; first | exact HC.out | exact HC.out.drewN _)
        have BX6 := zab.mk (show W6.heap[gx]? = some (.cells #[.int .i64 x.f0, .int .i64 x.f1.f0, .int .i64 x.f1.f1, .string x.f1.f2, .int .i64 x.f2, .int .i64 x.f3, .int .i64 x.f4.f0, .int .i64 x.f4.f1, .string x.f4.f2, .int .i64 x.f5, .slice A10 x.f6.length c10, .slice A11 x.f7.length c11, .bool x.f8, .string x.f9] 47 (0, 0)) by rw [hW6]; first | exact BX.out | exact zaj BX.out _)
        have HB6 := zab.mk (show Below w0.heap.size w0 W6 by rw [hW6]; first | exact HB.out | exact zaa HB.out _)
        have z0 : W6.cell? ⟨g, 0, none⟩ = some (.map (some bm)) := (zae C6.out.blk 0).trans rfl
        have z1 : W6.cell? ⟨gx, 1, none⟩ = some (.int .i64 x.f1.f0) := (zae BX6.out 1).trans rfl
        have z2 : W6.cell? ⟨gx, 2, none⟩ = some (.int .i64 x.f1.f1) := (zae BX6.out 2).trans rfl
        have z3 : W6.cell? ⟨gx, 3, none⟩ = some (.string x.f1.f2) := (zae BX6.out 3).trans rfl
        clear hW6
        refine start_ (n := 7) (ds := [6]) (S := fun w' => w'.cell? ⟨g, 0, none⟩ = some (.map (some bm)) ∧ w'.cell? ⟨gx, 1, none⟩ = some (.int .i64 x.f1.f0) ∧ w'.cell? ⟨gx, 2, none⟩ = some (.int .i64 x.f1.f1) ∧ w'.cell? ⟨gx, 3, none⟩ = some (.string x.f1.f2)) #[false, false, false, false, false, false, false] (by rfl) rfl rfl ⟨z0, z1, z2, z3⟩ (fun hHeld => ?_)
        refine pz_ 0 74 ?_ ?_ (bz 7 1) rfl rfl (by kernel_rfl) (fun _ _ _ h => h) (Or.inl ⟨by rfl, ?_⟩) ?_ ?_; rotate_left 2; (intro w'; go_simp; with_reducible rfl); (simp only [zps]; rfl)
        refine pz_ 1 75 ?_ ?_ (bz 7 3) rfl rfl (by kernel_rfl) (fun _ _ _ h => h) (Or.inl ⟨by rfl, ?_⟩) ?_ ?_; rotate_left 2; (intro w'; go_simp; with_reducible rfl); (simp only [zps]; rfl)
        refine pz_ 2 76 ?_ ?_ (bz 7 7) rfl rfl (by kernel_rfl) (fun _ _ _ h => h) (Or.inl ⟨by rfl, ?_⟩) ?_ ?_; rotate_left 2; (intro w'; go_simp; with_reducible rfl); (simp only [zps]; rfl)
        refine pz_ 4 78 ?_ ?_ (bz 7 23) rfl rfl (by kernel_rfl) (fun _ _ _ h => h) (Or.inl ⟨by rfl, ?_⟩) ?_ ?_; rotate_left 2; (intro w'; go_simp; with_reducible rfl); (simp only [zps]; rfl)
        refine tz_ 3 77 ?_ ?_ (bz 7 31) rfl rfl (by kernel_rfl) (fun _ _ _ h => h) (Or.inl ⟨by rfl, ?_⟩) hHeld ?_ ?_; rotate_left 2; (rintro w' ⟨s0, s1, s2, s3⟩; go_simp; with_reducible rfl); (simp only [zps]; rfl)
        refine tz_ 5 79 ?_ ?_ (bz 7 63) rfl rfl (by kernel_rfl) (fun _ _ _ h => h) (Or.inl ⟨by rfl, ?_⟩) hHeld ?_ ?_; rotate_left 2; (rintro w' ⟨s0, s1, s2, s3⟩; go_simp; with_reducible rfl); (simp only [zps]; rfl)
        refine last_ (i := 6) (N := none) (bz 7 127) rfl rfl (by kernel_rfl) (by decide) (fun K hK => ?_)
        rw [if_pos (by rfl)]
        obtain ⟨W7, hr7, hM7, hg7⟩ := MapIs.drop (w := W6.drew) (C6.out.busy.below (zb6 (Below.refl _ _))) KO.out 0
        refine wp_drop (.tmp 77) (.tmp 79) 56 38 rfl rfl rfl hr7 ?_
        refine hK.out _ _ ?_
        have C7 := zab.mk ((C6.out.below (zb6 (Below.refl _ _))).turn hg7 hM7)
        have HB7 := zab.mk (pw_below_grown (zad HB6.out) _ (zad HB6.out).size hg7 (fun k_ hk_ => by have := Option.some.inj hk_; have := HC.out.hb; omega))
        have BX7 := zab.mk ((hg7.block gx (zbp (zam BX6.out)) (fun e => blk_no_map BX6.out C6.out.busy (Option.some.inj e))).trans (zam BX6.out))
        refine norm_ (a' := ?_) ?_ ?_
        rotate_left
        ·simp only [Act.put, List.setIfInBounds_toArray, List.set_cons_zero, List.set_cons_succ]
         rfl
        refine done_ (by kernel_rfl) ?_
        obtain ⟨ge, ce, hve, hge, _, _⟩ := Kd.R_form HC.out.ends (by have := C5v.out; show 0 < s.ends.length; omega)
        subst hve
        have GEE := zab.mk hge
        clear hge
        clear HC BX BG HB y0 y1 y2 y3 y4 y5 y6 y7 y8 y9 y10 y11 y12 y13 v0 v1 v2 v3 v4 z0 z1 z2 z3 hHeld hr7 hM7 hg7 hK K C6 BX6 HB6
        have HC := C7
        have BX := BX7
        have HB := HB7
        clear C7 BX7 HB7
        have y0 : W7.cell? ⟨gx, 0, none⟩ = some (.int .i64 x.f0) := (zae BX.out 0).trans rfl
        have y1 : W7.cell? ⟨gx, 1, none⟩ = some (.int .i64 x.f1.f0) := (zae BX.out 1).trans rfl
        have y2 : W7.cell? ⟨gx, 2, none⟩ = some (.int .i64 x.f1.f1) := (zae BX.out 2).trans rfl
        have y3 : W7.cell? ⟨gx, 3, none⟩ = some (.string x.f1.f2) := (zae BX.out 3).trans rfl
        have y4 : W7.cell? ⟨gx, 4, none⟩ = some (.int .i64 x.f2) := (zae BX.out 4).trans rfl
        have y5 : W7.cell? ⟨gx, 5, none⟩ = some (.int .i64 x.f3) := (zae BX.out 5).trans rfl
        have y6 : W7.cell? ⟨gx, 6, none⟩ = some (.int .i64 x.f4.f0) := (zae BX.out 6).trans rfl
        have y7 : W7.cell? ⟨gx, 7, none⟩ = some (.int .i64 x.f4.f1) := (zae BX.out 7).trans rfl
        have y8 : W7.cell? ⟨gx, 8, none⟩ = some (.string x.f4.f2) := (zae BX.out 8).trans rfl
        have y9 : W7.cell? ⟨gx, 9, none⟩ = some (.int .i64 x.f5) := (zae BX.out 9).trans rfl
        have y10 : W7.cell? ⟨gx, 10, none⟩ = some (.slice A10 x.f6.length c10) := (zae BX.out 10).trans rfl
        have y11 : W7.cell? ⟨gx, 11, none⟩ = some (.slice A11 x.f7.length c11) := (zae BX.out 11).trans rfl
        have y12 : W7.cell? ⟨gx, 12, none⟩ = some (.bool x.f8) := (zae BX.out 12).trans rfl
        have y13 : W7.cell? ⟨gx, 13, none⟩ = some (.string x.f9) := (zae BX.out 13).trans rfl
        have v0 : W7.cell? ⟨g, 0, none⟩ = some (.map (some bm)) := (zae HC.out.blk 0).trans rfl
        have v1 : W7.cell? ⟨g, 1, none⟩ = some (.map (some lm)) := (zae HC.out.blk 1).trans rfl
        have v2 : W7.cell? ⟨g, 2, none⟩ = some (.int .i64 x.f0) := (zae HC.out.blk 2).trans rfl
        have v3 : W7.cell? ⟨g, 3, none⟩ = some (vg) := (zae HC.out.blk 3).trans rfl
        have v4 : W7.cell? ⟨g, 4, none⟩ = some (.slice (some ⟨ge, 0, none⟩) s.ends.length ce) := (zae HC.out.blk 4).trans rfl
        by_cases c6 : x.f2 = 2
        ·have HS3 := HS2.out
         rw [if_pos c6] at HS3
         have q6 : (x.f2 == 2) = true := beq_iff_eq.mpr c6
         clear c6 HS2
         replace HS3 := Option.bind_eq_some_iff.mp HS3
         obtain ⟨⟨r1, r2⟩, OU, H3⟩ := HS3
         have OU := zab.mk OU
         have HH3 := zab.mk H3
         clear H3
         obtain ⟨ad2, B10, d10, B11, d11, ea2, hm0, hm1, hm2, hm3, hm4, hm5, hm6, hm7, hm8, hm9, hm10, hm11, hm12, hm13, _, _, _, _⟩ := at_T47 HR0.out bv C5v.out.1 C5v.out.2.1
         cases ea2
         clear hm0 hm1 hm2 hm3 hm4 hm6 hm7 hm8 hm10 hm11 hm12 hm13
         obtain ⟨m, em⟩ : ∃ m, m = (zav l bv).f3 := ⟨_, rfl⟩
         obtain ⟨op, eo⟩ : ∃ m, m = (zav l bv).f5 := ⟨_, rfl⟩
         rw [← em] at hm5
         rw [← eo] at hm9
         have OU : zab (zbf.f k m op x.f7 = some (r1, r2)) := ⟨by rw [em, eo]; exact OU.out⟩
         clear em eo
         have p6 := eq_true C5v.out.1
         have p7 := eq_true C5v.out.2.1
         cases r2 with
         | false =>
          have H4 : some ((4 : Int), s) = some (e0, s') := HH3.out
          clear HH3
          simp only [Option.some.injEq, Prod.mk.injEq] at H4
          obtain ⟨rfl, rfl⟩ := H4
          go_upto_region 22 with (fail)
          have z0 := zaf HB.out hm5
          have z1 := zaf HB.out hm9
          have z2 : W7.cell? ⟨gx, 11, none⟩ = some (.slice A11 x.f7.length c11) := (zae BX.out 11).trans rfl
          refine start_ (n := 18) (ds := []) (S := fun w' => w'.cell? ⟨(ad.add (bv.toNat * 14)).block, (ad.add (bv.toNat * 14)).off + 5, none⟩ = some (.int .i64 m) ∧ w'.cell? ⟨(ad.add (bv.toNat * 14)).block, (ad.add (bv.toNat * 14)).off + 9, none⟩ = some (.int .i64 op) ∧ w'.cell? ⟨gx, 11, none⟩ = some (.slice A11 x.f7.length c11)) #[false, false, false, false, false, false, false, false, false, false, false, false, false, false, false, false, false, false] (by rfl) rfl rfl ⟨z0, z1, z2⟩ (fun hHeld => ?_)
          have HC8 := zab.mk (HC.out.below (zb6 (Below.refl _ _)))
          have HB8 := zab.mk (zad HB.out)
          have BX8 := zab.mk (zam BX.out)
          clear z0 z1 z2 y0 y1 y2 y3 y4 y5 y6 y7 y8 y9 y10 y11 y12 y13 v0 v1 v2 v3 v4 HC HB BX
          generalize W7.drew = W8 at HC8 HB8 BX8 hHeld ⊢
          refine pz_ 0 92 ?_ ?_ (bz 18 1) rfl rfl (by kernel_rfl) (fun _ _ _ h => h) (Or.inl ⟨by rfl, ?_⟩) ?_ ?_; rotate_left 2; (intro w'; go_simp; with_reducible rfl); (simp only [zps]; rfl)
          refine pz_ 1 93 ?_ ?_ (bz 18 3) rfl rfl (by kernel_rfl) (fun _ _ _ h => h) (Or.inl ⟨by rfl, ?_⟩) ?_ ?_; rotate_left 2; (intro w'; go_simp; with_reducible rfl); (simp only [zps]; rfl)
          refine pz_ 2 94 ?_ ?_ (bz 18 7) rfl rfl (by kernel_rfl) (fun _ _ _ h => h) (Or.inl ⟨by rfl, ?_⟩) ?_ ?_; rotate_left 2; (intro w'; go_simp; with_reducible rfl); (simp only [zps]; rfl)
          refine pz_ 3 95 ?_ ?_ (bz 18 15) rfl rfl (by kernel_rfl) (fun _ _ _ h => h) (Or.inl ⟨by rfl, ?_⟩) ?_ ?_; rotate_left 2; (intro w'; go_simp; with_reducible rfl); (simp only [zps]; rfl)
          refine pz_ 5 97 ?_ ?_ (bz 18 47) rfl rfl (by kernel_rfl) (fun _ _ _ h => h) (Or.inl ⟨by rfl, ?_⟩) ?_ ?_; rotate_left 2; (intro w'; go_simp; with_reducible rfl); (simp only [zps]; rfl)
          refine pz_ 6 98 ?_ ?_ (bz 18 111) rfl rfl (by kernel_rfl) (fun _ _ _ h => h) (Or.inl ⟨by rfl, ?_⟩) ?_ ?_; rotate_left 2; (intro w'; go_simp; with_reducible rfl); (simp only [zps]; rfl)
          refine pz_ 7 99 ?_ ?_ (bz 18 239) rfl rfl (by kernel_rfl) (fun _ _ _ h => h) (Or.inl ⟨by rfl, ?_⟩) ?_ ?_; rotate_left 2; (intro w'; go_simp; with_reducible rfl); (simp only [zps]; rfl)
          refine pz_ 8 100 ?_ ?_ (bz 18 495) rfl rfl (by kernel_rfl) (fun _ _ _ h => h) (Or.inl ⟨by rfl, ?_⟩) ?_ ?_; rotate_left 2; (intro w'; go_simp; with_reducible rfl); (simp only [zps]; rfl)
          refine pz_ 10 102 ?_ ?_ (bz 18 1519) rfl rfl (by kernel_rfl) (fun _ _ _ h => h) (Or.inl ⟨by rfl, ?_⟩) ?_ ?_; rotate_left 2; (intro w'; go_simp; with_reducible rfl); (simp only [zps]; rfl)
          refine tz_ 4 96 ?_ ?_ (bz 18 1535) rfl rfl (by kernel_rfl) (fun _ _ _ h => h) (Or.inl ⟨by rfl, ?_⟩) hHeld ?_ ?_; rotate_left 2; (rintro w' ⟨s0, s1, s2⟩; go_simp; with_reducible rfl); (simp only [zps]; rfl)
          refine tz_ 9 101 ?_ ?_ (bz 18 2047) rfl rfl (by kernel_rfl) (fun _ _ _ h => h) (Or.inl ⟨by rfl, ?_⟩) hHeld ?_ ?_; rotate_left 2; (rintro w' ⟨s0, s1, s2⟩; go_simp; with_reducible rfl); (simp only [zps]; rfl)
          refine tz_ 11 103 ?_ ?_ (bz 18 4095) rfl rfl (by kernel_rfl) (fun _ _ _ h => h) (Or.inl ⟨by rfl, ?_⟩) hHeld ?_ ?_; rotate_left 2; (rintro w' ⟨s0, s1, s2⟩; go_simp; with_reducible rfl); (simp only [zps]; rfl)
          refine one_ (i := 12) (N := some 104) (bz 18 8191) rfl rfl (by kernel_rfl) (by decide) (fun K hK => ?_)
          refine goes_ Tryd.func34 (by kernel_rfl) rfl #[.int .i64 m, .int .i64 op, .slice A11 x.f7.length c11] (by rfl) rfl rfl (by (try simp only [List.map_toArray, List.map_cons, List.map_nil]); first | done | rfl) ?_
          with_reducible refine (zbf.calls k m op _ _ x.f7 r1 false _ ?s0 ?s1 ?s2 OU.out).mono ?_
          (case s0 => exact za7 HG.out HB8.out)
          (case s1 => exact Kd.za9 HR11.out HB8.out)
          (case s2 => exact HC11.out)
          rintro e w9 ⟨v9, rfl, ho9, hb9⟩
          obtain ⟨A9, c9, e9⟩ := Kd.R_slice ho9
          subst e9
          refine ⟨_, rfl, ?_⟩
          have HC := zab.mk (HC8.out.below hb9)
          have HB := zab.mk (za1 HB8.out HB8.out.size hb9)
          have BX := zab.mk (zaw BX8.out hb9)
          clear ho9 hb9 HC8 HB8 BX8 hHeld
          refine hK.out _ _ ⟨zaf HB.out hm5, zaf HB.out hm9, (zae BX.out 11).trans rfl⟩ (fun hHeld => ?_)
          clear hK K
          refine norm_ (a' := ?_) ?_ ?_
          rotate_left
          ·show Act.put _ (some 104) _ = _
           simp only [zps]
           rfl
          refine pz_ 13 91 ?_ ?_ (bz 18 16383) rfl rfl (by kernel_rfl) (fun _ _ _ h => h) (Or.inl ⟨by rfl, ?_⟩) ?_ ?_; rotate_left 2; (intro w'; go_simp; with_reducible rfl); (simp only [zps]; rfl)
          refine pz_ 14 105 ?_ ?_ (bz 18 32767) rfl rfl (by kernel_rfl) (fun _ _ _ h => h) (Or.inl ⟨by rfl, ?_⟩) ?_ ?_; rotate_left 2; (intro w'; go_simp; with_reducible rfl); (simp only [zps]; rfl)
          refine pz_ 15 106 ?_ ?_ (bz 18 65535) rfl rfl (by kernel_rfl) (fun _ _ _ h => h) (Or.inl ⟨by rfl, ?_⟩) ?_ ?_; rotate_left 2; (intro w'; go_simp; with_reducible rfl); (simp only [zps]; rfl)
          refine pz_ 16 12 ?_ ?_ (bz 18 131071) rfl rfl (by kernel_rfl) (fun _ _ _ h => h) (Or.inl ⟨by rfl, ?_⟩) ?_ ?_; rotate_left 2; (intro w'; go_simp; with_reducible rfl); (simp only [zps]; rfl)
          refine pz_ 17 13 ?_ ?_ (bz 18 262143) rfl rfl (by kernel_rfl) (fun _ _ _ h => h) (Or.inl ⟨by rfl, ?_⟩) ?_ ?_; rotate_left 2; (intro w'; go_simp; with_reducible rfl); (simp only [zps]; rfl)
          refine done_ (by kernel_rfl) ?_
          clear hHeld
          have v0 : w9.cell? ⟨g, 0, none⟩ = some (.map (some bm)) := (zae HC.out.blk 0).trans rfl
          have v1 : w9.cell? ⟨g, 1, none⟩ = some (.map (some lm)) := (zae HC.out.blk 1).trans rfl
          have v2 : w9.cell? ⟨g, 2, none⟩ = some (.int .i64 x.f0) := (zae HC.out.blk 2).trans rfl
          have v3 : w9.cell? ⟨g, 3, none⟩ = some (vg) := (zae HC.out.blk 3).trans rfl
          have v4 : w9.cell? ⟨g, 4, none⟩ = some (.slice (some ⟨ge, 0, none⟩) s.ends.length ce) := (zae HC.out.blk 4).trans rfl
          go_wp2
          go_ret
          first | exact ⟨rfl, HB.out, fun h => absurd h (by decide)⟩ | exact ⟨rfl, HB.out⟩ | exact HB.out
         | true =>
          have H4 : some ((0 : Int), (⟨upd s.busy (zbd x.f1) none, s.lost, x.f0, s.gone, s.ends.set bv.toNat i⟩ : St)) = some (e0, s') := HH3.out
          clear HH3
          simp only [Option.some.injEq, Prod.mk.injEq] at H4
          obtain ⟨rfl, rfl⟩ := H4
          go_upto_region 22 with (fail)
          have z0 := zaf HB.out hm5
          have z1 := zaf HB.out hm9
          have z2 : W7.cell? ⟨gx, 11, none⟩ = some (.slice A11 x.f7.length c11) := (zae BX.out 11).trans rfl
          refine start_ (n := 18) (ds := []) (S := fun w' => w'.cell? ⟨(ad.add (bv.toNat * 14)).block, (ad.add (bv.toNat * 14)).off + 5, none⟩ = some (.int .i64 m) ∧ w'.cell? ⟨(ad.add (bv.toNat * 14)).block, (ad.add (bv.toNat * 14)).off + 9, none⟩ = some (.int .i64 op) ∧ w'.cell? ⟨gx, 11, none⟩ = some (.slice A11 x.f7.length c11)) #[false, false, false, false, false, false, false, false, false, false, false, false, false, false, false, false, false, false] (by rfl) rfl rfl ⟨z0, z1, z2⟩ (fun hHeld => ?_)
          have HC8 := zab.mk (HC.out.below (zb6 (Below.refl _ _)))
          have HB8 := zab.mk (zad HB.out)
          have BX8 := zab.mk (zam BX.out)
          clear z0 z1 z2 y0 y1 y2 y3 y4 y5 y6 y7 y8 y9 y10 y11 y12 y13 v0 v1 v2 v3 v4 HC HB BX
          generalize W7.drew = W8 at HC8 HB8 BX8 hHeld ⊢
          refine pz_ 0 92 ?_ ?_ (bz 18 1) rfl rfl (by kernel_rfl) (fun _ _ _ h => h) (Or.inl ⟨by rfl, ?_⟩) ?_ ?_; rotate_left 2; (intro w'; go_simp; with_reducible rfl); (simp only [zps]; rfl)
          refine pz_ 1 93 ?_ ?_ (bz 18 3) rfl rfl (by kernel_rfl) (fun _ _ _ h => h) (Or.inl ⟨by rfl, ?_⟩) ?_ ?_; rotate_left 2; (intro w'; go_simp; with_reducible rfl); (simp only [zps]; rfl)
          refine pz_ 2 94 ?_ ?_ (bz 18 7) rfl rfl (by kernel_rfl) (fun _ _ _ h => h) (Or.inl ⟨by rfl, ?_⟩) ?_ ?_; rotate_left 2; (intro w'; go_simp; with_reducible rfl); (simp only [zps]; rfl)
          refine pz_ 3 95 ?_ ?_ (bz 18 15) rfl rfl (by kernel_rfl) (fun _ _ _ h => h) (Or.inl ⟨by rfl, ?_⟩) ?_ ?_; rotate_left 2; (intro w'; go_simp; with_reducible rfl); (simp only [zps]; rfl)
          refine pz_ 5 97 ?_ ?_ (bz 18 47) rfl rfl (by kernel_rfl) (fun _ _ _ h => h) (Or.inl ⟨by rfl, ?_⟩) ?_ ?_; rotate_left 2; (intro w'; go_simp; with_reducible rfl); (simp only [zps]; rfl)
          refine pz_ 6 98 ?_ ?_ (bz 18 111) rfl rfl (by kernel_rfl) (fun _ _ _ h => h) (Or.inl ⟨by rfl, ?_⟩) ?_ ?_; rotate_left 2; (intro w'; go_simp; with_reducible rfl); (simp only [zps]; rfl)
          refine pz_ 7 99 ?_ ?_ (bz 18 239) rfl rfl (by kernel_rfl) (fun _ _ _ h => h) (Or.inl ⟨by rfl, ?_⟩) ?_ ?_; rotate_left 2; (intro w'; go_simp; with_reducible rfl); (simp only [zps]; rfl)
          refine pz_ 8 100 ?_ ?_ (bz 18 495) rfl rfl (by kernel_rfl) (fun _ _ _ h => h) (Or.inl ⟨by rfl, ?_⟩) ?_ ?_; rotate_left 2; (intro w'; go_simp; with_reducible rfl); (simp only [zps]; rfl)
          refine pz_ 10 102 ?_ ?_ (bz 18 1519) rfl rfl (by kernel_rfl) (fun _ _ _ h => h) (Or.inl ⟨by rfl, ?_⟩) ?_ ?_; rotate_left 2; (intro w'; go_simp; with_reducible rfl); (simp only [zps]; rfl)
          refine tz_ 4 96 ?_ ?_ (bz 18 1535) rfl rfl (by kernel_rfl) (fun _ _ _ h => h) (Or.inl ⟨by rfl, ?_⟩) hHeld ?_ ?_; rotate_left 2; (rintro w' ⟨s0, s1, s2⟩; go_simp; with_reducible rfl); (simp only [zps]; rfl)
          refine tz_ 9 101 ?_ ?_ (bz 18 2047) rfl rfl (by kernel_rfl) (fun _ _ _ h => h) (Or.inl ⟨by rfl, ?_⟩) hHeld ?_ ?_; rotate_left 2; (rintro w' ⟨s0, s1, s2⟩; go_simp; with_reducible rfl); (simp only [zps]; rfl)
          refine tz_ 11 103 ?_ ?_ (bz 18 4095) rfl rfl (by kernel_rfl) (fun _ _ _ h => h) (Or.inl ⟨by rfl, ?_⟩) hHeld ?_ ?_; rotate_left 2; (rintro w' ⟨s0, s1, s2⟩; go_simp; with_reducible rfl); (simp only [zps]; rfl)
          refine one_ (i := 12) (N := some 104) (bz 18 8191) rfl rfl (by kernel_rfl) (by decide) (fun K hK => ?_)
          refine goes_ Tryd.func34 (by kernel_rfl) rfl #[.int .i64 m, .int .i64 op, .slice A11 x.f7.length c11] (by rfl) rfl rfl (by (try simp only [List.map_toArray, List.map_cons, List.map_nil]); first | done | rfl) ?_
          with_reducible refine (zbf.calls k m op _ _ x.f7 r1 true _ ?s0 ?s1 ?s2 OU.out).mono ?_
          (case s0 => exact za7 HG.out HB8.out)
          (case s1 => exact Kd.za9 HR11.out HB8.out)
          (case s2 => exact HC11.out)
          rintro e w9 ⟨v9, rfl, ho9, hb9⟩
          obtain ⟨A9, c9, e9⟩ := Kd.R_slice ho9
          subst e9
          refine ⟨_, rfl, ?_⟩
          have HC := zab.mk (HC8.out.below hb9)
          have HB := zab.mk (za1 HB8.out HB8.out.size hb9)
          have BX := zab.mk (zaw BX8.out hb9)
          clear ho9 hb9 HC8 HB8 BX8 hHeld
          refine hK.out _ _ ⟨zaf HB.out hm5, zaf HB.out hm9, (zae BX.out 11).trans rfl⟩ (fun hHeld => ?_)
          clear hK K
          refine norm_ (a' := ?_) ?_ ?_
          rotate_left
          ·show Act.put _ (some 104) _ = _
           simp only [zps]
           rfl
          refine pz_ 13 91 ?_ ?_ (bz 18 16383) rfl rfl (by kernel_rfl) (fun _ _ _ h => h) (Or.inl ⟨by rfl, ?_⟩) ?_ ?_; rotate_left 2; (intro w'; go_simp; with_reducible rfl); (simp only [zps]; rfl)
          refine pz_ 14 105 ?_ ?_ (bz 18 32767) rfl rfl (by kernel_rfl) (fun _ _ _ h => h) (Or.inl ⟨by rfl, ?_⟩) ?_ ?_; rotate_left 2; (intro w'; go_simp; with_reducible rfl); (simp only [zps]; rfl)
          refine pz_ 15 106 ?_ ?_ (bz 18 65535) rfl rfl (by kernel_rfl) (fun _ _ _ h => h) (Or.inl ⟨by rfl, ?_⟩) ?_ ?_; rotate_left 2; (intro w'; go_simp; with_reducible rfl); (simp only [zps]; rfl)
          refine pz_ 16 12 ?_ ?_ (bz 18 131071) rfl rfl (by kernel_rfl) (fun _ _ _ h => h) (Or.inl ⟨by rfl, ?_⟩) ?_ ?_; rotate_left 2; (intro w'; go_simp; with_reducible rfl); (simp only [zps]; rfl)
          refine pz_ 17 13 ?_ ?_ (bz 18 262143) rfl rfl (by kernel_rfl) (fun _ _ _ h => h) (Or.inl ⟨by rfl, ?_⟩) ?_ ?_; rotate_left 2; (intro w'; go_simp; with_reducible rfl); (simp only [zps]; rfl)
          refine done_ (by kernel_rfl) ?_
          clear hHeld
          have v0 : w9.cell? ⟨g, 0, none⟩ = some (.map (some bm)) := (zae HC.out.blk 0).trans rfl
          have v1 : w9.cell? ⟨g, 1, none⟩ = some (.map (some lm)) := (zae HC.out.blk 1).trans rfl
          have v2 : w9.cell? ⟨g, 2, none⟩ = some (.int .i64 x.f0) := (zae HC.out.blk 2).trans rfl
          have v3 : w9.cell? ⟨g, 3, none⟩ = some (vg) := (zae HC.out.blk 3).trans rfl
          have v4 : w9.cell? ⟨g, 4, none⟩ = some (.slice (some ⟨ge, 0, none⟩) s.ends.length ce) := (zae HC.out.blk 4).trans rfl
          have fc := Kd.R_cell (0 : Int) HC.out.ends bv C5v.out.1 C5v.out.2.2
          have fc0 := fc.1
          have fc1 := fc.2
          have p8 := eq_true C5v.out.2.2
          clear fc
          go_wp2
          go_ret
          have C10 := Cl.setEnd (s := ⟨upd s.busy (zbd x.f1) none, s.lost, x.f0, s.gone, s.ends⟩) HC.out bv i
          have HB10 := HB.out.setCell (p := ⟨ge, bv.toNat, none⟩) GEE.out (.int .i64 i)
          first | exact ⟨rfl, HB10, fun _ => ⟨_, _, vg, _, Nat.le_succ _, Nat.le_succ _, C10⟩⟩ | exact ⟨rfl, HB10, _, Nat.le_succ _, _, Nat.le_succ _, vg, _, C10⟩
        ·have HS3 := HS2.out
         rw [if_neg c6] at HS3
         have q6 : (x.f2 == 2) = false := beq_eq_false_iff_ne.mpr c6
         clear c6 HS2
         by_cases c7 : x.f2 = 3
         ·rw [if_pos c7] at HS3
          have q7 : (x.f2 == 3) = true := beq_iff_eq.mpr c7
          clear c7
          by_cases c8 : s.gone.length < 1000
          ·rw [if_pos c8] at HS3
           have C8v := zab.mk c8
           clear c8
           simp only [Option.some.injEq, Prod.mk.injEq] at HS3
           obtain ⟨rfl, rfl⟩ := HS3
           go_wp2_with ((with_reducible refine zb2 (b := .append) (xs := #[.tmp 122, .tmp 124]) rfl ?_); at_builtin; refine Kd.R_append (Kd.int .i64) (w0 := w0) w0.heap.size rfl (.tmp 122) (.tmp 124) 55 3 (.int .i64 0) 8 rfl Tryd.underlying55 info3 rfl (by decide) (by omega) vg s.gone bv [.int .i64 bv] (fun k_ => some k_ ≠ (Value.slice (some ⟨ge, 0, none⟩) s.ends.length ce).ownBlock) (fun _ => False) rfl rfl ?aP (fun _ hk => hk.elim) ?aF ?aO ?aB ?aS ?aL ?_; (case aP => exact rfl); (case aB => exact HB.out); (case aF => exact HC.out.fresh); (case aO => exact HC.out.gone); (case aS => exact HB.out.size); (case aL => have := C8v.out; omega); intro v9 w9 ho hb hg hat; obtain ⟨A9, c9, e9⟩ := Kd.R_slice ho; subst e9; have C9 := zab.mk (HC.out.push hg ho); have HB9 := zab.mk (hb.setCell (p := ⟨g, 3, none⟩) HC.out.hg (.slice A9 (s.gone ++ [bv]).length c9)); have BG9 := zab.mk (blk_grown HC.out.blk hg (Kd.R_ne HC.out.gone HC.out.blk (by decide))); clear ho hb hg hat; have x3 : w9.cell? ⟨g, 3, none⟩ = some vg := (zae BG9.out 3).trans rfl; have x4 := zah BG9.out 3)
           go_ret
           have C10 := C9.out
           have HB10 := HB9.out
           rw [List.length_append, List.length_singleton] at C10 HB10
           first | exact ⟨rfl, HB10, fun _ => ⟨_, _, _, _, Nat.le_succ _, Nat.le_succ _, C10⟩⟩ | exact ⟨rfl, HB10, _, Nat.le_succ _, _, Nat.le_succ _, _, _, C10⟩
          ·rw [if_neg c8] at HS3
           cases HS3
         ·rw [if_neg c7] at HS3
          have q7 : (x.f2 == 3) = false := beq_eq_false_iff_ne.mpr c7
          clear c7
          simp only [Option.some.injEq, Prod.mk.injEq] at HS3
          obtain ⟨rfl, rfl⟩ := HS3
          go_upto_region 20 with (fail)
          refine start_ (n := 8) (ds := [7]) (S := fun w' => w'.cell? ⟨g, 1, none⟩ = some (.map (some lm)) ∧ w'.cell? ⟨gx, 1, none⟩ = some (.int .i64 x.f1.f0) ∧ w'.cell? ⟨gx, 2, none⟩ = some (.int .i64 x.f1.f1) ∧ w'.cell? ⟨gx, 3, none⟩ = some (.string x.f1.f2)) #[false, false, false, false, false, false, false, false] (by rfl) rfl rfl ⟨v1, y1, y2, y3⟩ (fun hHeld => ?_)
          refine pz_ 0 82 ?_ ?_ (bz 8 1) rfl rfl (by kernel_rfl) (fun _ _ _ h => h) (Or.inl ⟨by rfl, ?_⟩) ?_ ?_; rotate_left 2; (intro w'; go_simp; with_reducible rfl); (simp only [zps]; rfl)
          refine pz_ 1 83 ?_ ?_ (bz 8 3) rfl rfl (by kernel_rfl) (fun _ _ _ h => h) (Or.inl ⟨by rfl, ?_⟩) ?_ ?_; rotate_left 2; (intro w'; go_simp; with_reducible rfl); (simp only [zps]; rfl)
          refine pz_ 2 84 ?_ ?_ (bz 8 7) rfl rfl (by kernel_rfl) (fun _ _ _ h => h) (Or.inl ⟨by rfl, ?_⟩) ?_ ?_; rotate_left 2; (intro w'; go_simp; with_reducible rfl); (simp only [zps]; rfl)
          refine pz_ 4 86 ?_ ?_ (bz 8 23) rfl rfl (by kernel_rfl) (fun _ _ _ h => h) (Or.inl ⟨by rfl, ?_⟩) ?_ ?_; rotate_left 2; (intro w'; go_simp; with_reducible rfl); (simp only [zps]; rfl)
          refine pz_ 6 88 ?_ ?_ (bz 8 87) rfl rfl (by kernel_rfl) (fun _ _ _ h => h) (Or.inl ⟨by rfl, ?_⟩) ?_ ?_; rotate_left 2; (intro w'; go_simp; with_reducible rfl); (simp only [zps]; rfl)
          refine tz_ 3 85 ?_ ?_ (bz 8 95) rfl rfl (by kernel_rfl) (fun _ _ _ h => h) (Or.inl ⟨by rfl, ?_⟩) hHeld ?_ ?_; rotate_left 2; (rintro w' ⟨s0, s1, s2, s3⟩; go_simp; with_reducible rfl); (simp only [zps]; rfl)
          refine tz_ 5 87 ?_ ?_ (bz 8 127) rfl rfl (by kernel_rfl) (fun _ _ _ h => h) (Or.inl ⟨by rfl, ?_⟩) hHeld ?_ ?_; rotate_left 2; (rintro w' ⟨s0, s1, s2, s3⟩; go_simp; with_reducible rfl); (simp only [zps]; rfl)
          refine last_ (i := 7) (N := none) (bz 8 255) rfl rfl (by kernel_rfl) (by decide) (fun K hK => ?_)
          rw [if_pos (by rfl)]
          obtain ⟨W9, hr9, hM9, hg9⟩ := MapIs.store (w := W7.drew) (HC.out.lost.below (zb6 (Below.refl _ _))) (by have := HN2.out; unfold maxLen; omega) KO.out (v := i) (WalkArith.wf_i64 (by have := CI.out; omega))
          refine wp_store (.tmp 85) (.tmp 87) (.tmp 88) 56 rfl rfl rfl rfl hr9 ?_
          refine hK.out _ _ ?_
          have C9 := zab.mk ((HC.out.below (zb6 (Below.refl _ _))).turnLost hg9 hM9)
          have HB9 := zab.mk (pw_below_grown (zad HB.out) _ (zad HB.out).size hg9 (fun k_ hk_ => by have := Option.some.inj hk_; have := HC.out.hl; omega))
          refine norm_ (a' := ?_) ?_ ?_
          rotate_left
          ·simp only [Act.put, List.setIfInBounds_toArray, List.set_cons_zero, List.set_cons_succ]
           rfl
          refine done_ (by kernel_rfl) ?_
          go_wp2
          go_ret
          first | exact ⟨rfl, HB9.out, fun _ => ⟨_, _, vg, _, Nat.le_succ _, Nat.le_refl _, C9.out⟩⟩ | exact ⟨rfl, HB9.out, _, Nat.le_succ _, _, Nat.le_refl _, vg, _, C9.out⟩
       ·rw [if_neg c5] at HS1
        cases HS1
    ·rw [if_neg c3] at H
     cases H
 ·rw [if_neg c1] at h
  cases h
end Go.Proofs.YtikmmigfdchcpaaDoor.PP
