/-
  Proved: a part of the proof of the claim's statement (text Q17 of it).
  Conditions: none of ours.
-/
import Derived.Test.YtikmmigfdchcpaaDoorPeQ0
namespace Go.Proofs.YtikmmigfdchcpaaDoor.PP
open Go.RowKit Go.Proofs.YtikmmigfdchcpaaDoorW.PrintWords Go.Proofs.YtikmmigfdchcpaaDoorW.PrintLast Go.Proofs.YtikmmigfdchcpaaDoorW.PrintMore
set_option linter.unusedVariables false
set_option linter.unusedSimpArgs false
def rowIs (m o : Int) (x : S78) : Bool := x.f0 == m && x.f1 == o
def idxOf (m o : Int) : List S78 → Option Nat
 | [] => none
 | x :: l => if rowIs m o x = true then some 0 else (idxOf m o l).map (· + 1)
def idxInt : Option Nat → Int
 | none => -1
 | some i => i
theorem idxOf_hit (m o : Int) : ∀ (l : List S78) (k : Nat), k < l.length → (∀ j, j < k → rowIs m o (zbi l (j : Int)) = false) → rowIs m o (zbi l (k : Int)) = true → idxOf m o l = some k
 | [], k, h, _, _ => absurd h (by simp)
 | x :: l, 0, _, _, h1 => by
   have : rowIs m o x = true := h1
   simp [idxOf, this]
 | x :: l, k + 1, h, h0, h1 => by
   have e : rowIs m o x = false := h0 0 (by omega)
   have := idxOf_hit m o l k (by simpa using h) (fun j hj => h0 (j + 1) (by omega)) h1
   simp [idxOf, e, this]
theorem idxOf_miss (m o : Int) : ∀ (l : List S78), (∀ j, j < l.length → rowIs m o (zbi l (j : Int)) = false) → idxOf m o l = none
 | [], _ => rfl
 | x :: l, h => by
   have e : rowIs m o x = false := h 0 (by simp)
   have := idxOf_miss m o l (fun j hj => h (j + 1) (by simpa using hj))
   simp [idxOf, e, this]
set_option maxHeartbeats 8000000 in
set_option maxRecDepth 100000 in
theorem indexFunc (A0 : Option Addr) (c0 : Nat) (l0 : List S78) (m o : Int) (bm bo : Nat) (w : World) (hr0 : Kd.C k78 w A0 l0.length l0) (hl : l0.length ≤ 100)
  (hm : w.cell? ⟨bm, 0, none⟩ = some (.int .i64 m)) (ho : w.cell? ⟨bo, 0, none⟩ = some (.int .i64 o)) :
  Calls Tryd.prog 53 #[.slice A0 l0.length c0, .func (.func 54) #[] #[.pointer (some ⟨bm, 0, none⟩), .pointer (some ⟨bo, 0, none⟩)]] w fun e w' => e = .returned (.int .i64 (idxInt (idxOf m o l0))) ∧ Below w.heap.size w w' := by
 have hu78 := Tryd.underlying78
 have HR0 := zab.mk hr0
 have HM := zab.mk hm
 have HO := zab.mk ho
 have HL := zab.mk hl
 clear hr0 hm ho hl
 have HB := zab.mk (Below.refl w.heap.size w)
 go_enter Tryd.func53, Tryd.ntmps53
 go_wp2
 go_loopw [8] (fun v8 wr => ∃ i : Int, v8 = .int .i64 i ∧ zab (0 ≤ i ∧ i ≤ (l0.length : Int)) ∧ zab (∀ j : Nat, (j : Int) < i → rowIs m o (zbi l0 (j : Int)) = false) ∧ zab (Below w.heap.size w wr))
  (fun v8 _ => l0.length - (intOf v8).toNat)
 case atStart => exact ⟨0, rfl, ⟨by omega, by omega⟩, ⟨fun j hj => absurd hj (by omega)⟩, ⟨by repeat with_reducible first | exact HB.out | apply zac | apply zaa | apply zad⟩⟩
 case round =>
  clear HB
  obtain ⟨i, rfl, HK, HN, HB⟩ := hrel
  by_cases hk : i < (l0.length : Int)
  ·have hkb : decide (i < (l0.length : Int)) = true := decide_eq_true hk
   have hkc : decide (0 ≤ i) = true := decide_eq_true HK.out.1
   have hwi : wrap64 (i + 1) = i + 1 := by have := HL.out; have := HK.out; unfold wrap64; omega
   obtain ⟨ad, e0, hx0, hx1, hx2, hx3, hx4⟩ := at_T78 HR0.out i HK.out.1 hk
   cases e0
   replace hx0 := zaf HB.out hx0
   replace hx1 := zaf HB.out hx1
   replace hx2 := zaf HB.out hx2
   replace hx3 := zaf HB.out hx3
   replace hx4 := zaf HB.out hx4
   have hm := (HB.out.cell (World.block_lt_of_cell? w _ HM.out)).trans HM.out
   have ho := (HB.out.cell (World.block_lt_of_cell? w _ HO.out)).trans HO.out
   have hmA : ∀ O, (wr.alloc O).cell? ⟨bm, 0, none⟩ = some (.int .i64 m) := fun O => by rw [World.cell?_alloc_past _ _ _ (World.block_lt_of_cell? wr _ hm)]; exact hm
   have hoA : ∀ O, (wr.alloc O).cell? ⟨bo, 0, none⟩ = some (.int .i64 o) := fun O => by rw [World.cell?_alloc_past _ _ _ (World.block_lt_of_cell? wr _ ho)]; exact ho
   have p0 := eq_true HK.out.1
   have q0 := eq_true hk
   have HK1 := zab.mk hk
   clear hk
   by_cases c0 : (zbi l0 i).f0 = m
   ·have c0b : ((zbi l0 i).f0 == m) = true := beq_iff_eq.mpr c0
    by_cases c1 : (zbi l0 i).f1 = o
    ·have c1b : ((zbi l0 i).f1 == o) = true := beq_iff_eq.mpr c1
     have C0 := zab.mk c0
     have C1 := zab.mk c1
     clear c0 c1
     go_wp2_with (first | go_in)
     go_ret
     refine ⟨?_, by repeat with_reducible first | exact HB.out | apply zac | apply zaa | apply zad⟩
     have e : ((i.toNat : Nat) : Int) = i := Int.toNat_of_nonneg HK.out.1
     have := idxOf_hit m o l0 i.toNat (by have := HK1.out; omega) (fun j hj => HN.out j (by omega)) (by rw [e]; unfold rowIs; rw [c0b, c1b]; rfl)
     rw [this]
     exact congrArg (fun z => Ending.returned (.int .i64 z)) (show i = idxInt (some i.toNat) from e.symm)
    ·have c1b : ((zbi l0 i).f1 == o) = false := beq_eq_false_iff_ne.mpr c1
     have C0 := zab.mk c0
     clear c0
     go_wp2_with (first | go_in)
     go_roundw
     case rel => exact ⟨i + 1, by simp [hwi], ⟨by have := HK.out; have := HK1.out; omega⟩, ⟨fun j hj => by
      by_cases e : (j : Int) < i
      ·exact HN.out j e
      ·have e : (j : Int) = i := by omega
       rw [e]
       unfold rowIs; rw [c1b]; simp⟩, ⟨by repeat with_reducible first | exact HB.out | apply zac | apply zaa | apply zad⟩⟩
     case measure => have := HK.out; have := HK1.out; simp [intOf, hwi]; omega
   ·have c0b : ((zbi l0 i).f0 == m) = false := beq_eq_false_iff_ne.mpr c0
    go_wp2_with (first | go_in)
    go_roundw
    case rel => exact ⟨i + 1, by simp [hwi], ⟨by have := HK.out; have := HK1.out; omega⟩, ⟨fun j hj => by
     by_cases e : (j : Int) < i
     ·exact HN.out j e
     ·have e : (j : Int) = i := by omega
      rw [e]
      unfold rowIs; rw [c0b]; rfl⟩, ⟨by repeat with_reducible first | exact HB.out | apply zac | apply zaa | apply zad⟩⟩
    case measure => have := HK.out; have := HK1.out; simp [intOf, hwi]; omega
  ·have hkb : decide (i < (l0.length : Int)) = false := decide_eq_false hk
   have HK1 := zab.mk hk
   clear hk
   go_wp2
   go_ret
   refine ⟨?_, by repeat with_reducible first | exact HB.out | apply zac | apply zaa | apply zad⟩
   rw [idxOf_miss m o l0 (fun j hj => HN.out j (by have := HK.out; have := HK1.out; omega))]
   rfl
def za4 : List S78 := [⟨1, 1, ⟨#[118]⟩, (-1), false⟩, ⟨1, 2, ⟨#[]⟩, 2, true⟩, ⟨2, 1, ⟨#[118]⟩, (-1), false⟩, ⟨2, 2, ⟨#[]⟩, 2, true⟩, ⟨2, 3, ⟨#[118, 118]⟩, 6, false⟩, ⟨3, 4, ⟨#[118]⟩, (-1), false⟩, ⟨3, 5, ⟨#[118]⟩, (-1), false⟩, ⟨3, 6, ⟨#[118]⟩, 6, false⟩, ⟨4, 7, ⟨#[102, 118]⟩, (-1), false⟩, ⟨4, 8, ⟨#[102]⟩, 2, true⟩, ⟨4, 5, ⟨#[102]⟩, (-1), false⟩, ⟨5, 9, ⟨#[118]⟩, (-1), false⟩, ⟨5, 10, ⟨#[]⟩, 2, true⟩, ⟨6, 9, ⟨#[118]⟩, (-1), false⟩, ⟨6, 10, ⟨#[]⟩, 2, true⟩, ⟨7, 11, ⟨#[]⟩, 6, false⟩, ⟨7, 12, ⟨#[]⟩, 6, false⟩, ⟨8, 4, ⟨#[110]⟩, (-1), false⟩, ⟨8, 2, ⟨#[]⟩, 5, false⟩, ⟨9, 1, ⟨#[111]⟩, (-1), false⟩, ⟨9, 2, ⟨#[]⟩, 4, true⟩, ⟨10, 7, ⟨#[111, 118]⟩, (-1), false⟩, ⟨10, 5, ⟨#[111]⟩, (-1), false⟩, ⟨10, 13, ⟨#[111, 111]⟩, 99, false⟩]
def zbw : List Value := [.int .i64 1, .int .i64 1, .string ⟨#[118]⟩, .int .i64 (-1), .bool false, .int .i64 1, .int .i64 2, .string ⟨#[]⟩, .int .i64 2, .bool true, .int .i64 2, .int .i64 1, .string ⟨#[118]⟩, .int .i64 (-1), .bool false, .int .i64 2, .int .i64 2, .string ⟨#[]⟩, .int .i64 2, .bool true, .int .i64 2, .int .i64 3, .string ⟨#[118, 118]⟩, .int .i64 6, .bool false, .int .i64 3, .int .i64 4, .string ⟨#[118]⟩, .int .i64 (-1), .bool false, .int .i64 3, .int .i64 5, .string ⟨#[118]⟩, .int .i64 (-1), .bool false, .int .i64 3, .int .i64 6, .string ⟨#[118]⟩, .int .i64 6, .bool false, .int .i64 4, .int .i64 7, .string ⟨#[102, 118]⟩, .int .i64 (-1), .bool false, .int .i64 4, .int .i64 8, .string ⟨#[102]⟩, .int .i64 2, .bool true, .int .i64 4, .int .i64 5, .string ⟨#[102]⟩, .int .i64 (-1), .bool false, .int .i64 5, .int .i64 9, .string ⟨#[118]⟩, .int .i64 (-1), .bool false, .int .i64 5, .int .i64 10, .string ⟨#[]⟩, .int .i64 2, .bool true, .int .i64 6, .int .i64 9, .string ⟨#[118]⟩, .int .i64 (-1), .bool false, .int .i64 6, .int .i64 10, .string ⟨#[]⟩, .int .i64 2, .bool true, .int .i64 7, .int .i64 11, .string ⟨#[]⟩, .int .i64 6, .bool false, .int .i64 7, .int .i64 12, .string ⟨#[]⟩, .int .i64 6, .bool false, .int .i64 8, .int .i64 4, .string ⟨#[110]⟩, .int .i64 (-1), .bool false, .int .i64 8, .int .i64 2, .string ⟨#[]⟩, .int .i64 5, .bool false, .int .i64 9, .int .i64 1, .string ⟨#[111]⟩, .int .i64 (-1), .bool false, .int .i64 9, .int .i64 2, .string ⟨#[]⟩, .int .i64 4, .bool true, .int .i64 10, .int .i64 7, .string ⟨#[111, 118]⟩, .int .i64 (-1), .bool false, .int .i64 10, .int .i64 5, .string ⟨#[111]⟩, .int .i64 (-1), .bool false, .int .i64 10, .int .i64 13, .string ⟨#[111, 111]⟩, .int .i64 99, .bool false]
theorem signReps (W : World) (base : Nat) (ok : Nat → Prop) : Reps (k78.M W base ok) 5 za4 zbw := by
 unfold za4 zbw
 repeat (first | exact Reps.none _ _ | refine Reps.c5 (k78_mkM _ _ _ _) ?_)
def zbl.f (a0 : Int) (a1 : Int) : Option (Int × Int × ByteArray × Int × Bool × Bool) := match idxOf a0 a1 za4 with
 | none => some (0, 0, ⟨#[]⟩, 0, false, false)
 | some i => some ((zbi za4 i).f0, (zbi za4 i).f1, (zbi za4 i).f2, (zbi za4 i).f3, (zbi za4 i).f4, true)
theorem idxOf_lt (m o : Int) : ∀ (l : List S78) (i : Nat), idxOf m o l = some i → i < l.length
 | [], i, h => by simp [idxOf] at h
 | x :: l, i, h => by
   unfold idxOf at h
   split at h
   ·obtain rfl := Option.some.inj h; simp
   ·obtain ⟨j, hj, rfl⟩ := Option.map_eq_some_iff.mp h
    have := idxOf_lt m o l j hj
    simpa using this
theorem tableR (W : World) : Kd.R k78 78 (W.alloc (.cells zbw.toArray 78)) 0 (fun _ => True) (.slice (some ⟨W.heap.size, 0, none⟩) 24 24) za4 := by
 refine ⟨fun k _ => trivial, zbw, ?_, signReps _ _ _⟩
 have h2 := World.ownsRow_lit (base := 0) (e := 78) (size := 5) W zbw.toArray 24 (Nat.zero_le _) (by decide) (by decide)
 have h3 : (W.alloc (.cells zbw.toArray 78)).ownsRow 0 78 5 (.slice (some ⟨W.heap.size, 0, none⟩) 24 24) 24 zbw := by simpa using h2
 exact h3
theorem tableC (W : World) : Kd.C k78 (W.alloc (.cells zbw.toArray 78)) (some ⟨W.heap.size, 0, none⟩) za4.length za4 := (Kd.R_reads' (tableR W)).2.2
theorem addr0 (s n : Nat) : (⟨s, 0, none⟩ : Addr).add n = ⟨s, n, none⟩ := by
 unfold Addr.add
 split
 ·next h => subst h; rfl
 ·simp
theorem zb0 {α : Sort _} {G : α → Prop} (a : α) (h : ∀ W, W = a → G W) : G a := h a rfl
set_option maxHeartbeats 8000000 in
set_option maxRecDepth 100000 in
theorem zbl.calls (a0 : Int) (a1 : Int) (r1 : Int) (r2 : Int) (r3 : ByteArray) (r4 : Int) (r5 : Bool) (r6 : Bool) (w : World) (h : zbl.f a0 a1 = some (r1, r2, r3, r4, r5, r6)) :
  Calls Tryd.prog 45 #[.int .i64 a0, .int .i64 a1] w fun e w' => e = .returned (.tuple #[.agg #[.int .i64 r1, .int .i64 r2, .string r3, .int .i64 r4, .bool r5], .bool r6]) ∧ Below w.heap.size w w' := by
 have hu78 := Tryd.underlying78
 have hmf : ∀ (fn : Fn) (first cap : Array Value) (w : World), (Instr.makeFunc fn first cap).run Tryd.prog w = .ok (.func fn first cap) w := fun _ _ _ _ => rfl
 have HB := zab.mk (Below.refl w.heap.size w)
 have HH := zab.mk h
 clear h
 obtain ⟨W3, hW3⟩ : ∃ W3, W3 = ((w.alloc (.cells #[.int .i64 a0] 3)).alloc (.cells #[.int .i64 a1] 3)).alloc (.cells #[.int .i64 0, .int .i64 0, .string ⟨#[]⟩, .int .i64 0, .bool false] 78) := ⟨_, rfl⟩
 have hs3 : W3.heap.size = w.heap.size + 3 := by rw [hW3]; simp
 have b3 : Below w.heap.size w W3 := by rw [hW3]; exact zac (zac (zac (Below.refl _ _) _) _) _
 have g2 : W3.heap[w.heap.size + 2]? = some (.cells #[.int .i64 0, .int .i64 0, .string ⟨#[]⟩, .int .i64 0, .bool false] 78 (0, 0)) := by
  rw [hW3]
  have := blk_new ((w.alloc (.cells #[.int .i64 a0] 3)).alloc (.cells #[.int .i64 a1] 3)) (.cells #[.int .i64 0, .int .i64 0, .string ⟨#[]⟩, .int .i64 0, .bool false] 78)
  simpa using this
 have m0 : W3.cell? ⟨w.heap.size, 0, none⟩ = some (.int .i64 a0) := by
  rw [hW3, World.cell?_alloc_past _ _ _ (by simp; omega), World.cell?_alloc_past _ _ _ (by simp), World.cell?_alloc_at _ _ _ _ (by simp)]; rfl
 have m1 : W3.cell? ⟨w.heap.size + 1, 0, none⟩ = some (.int .i64 a1) := by
  rw [hW3, World.cell?_alloc_past _ _ _ (by simp), World.cell?_alloc_at _ _ _ _ (by simp)]; rfl
 have tc := tableC W3
 rw [hs3] at tc
 have tb : Below W3.heap.size W3 (W3.alloc (.cells zbw.toArray 78)) := zac (Below.refl _ _) _
 have i0 := indexFunc (some ⟨w.heap.size + 3, 0, none⟩) 24 za4 a0 a1 w.heap.size (w.heap.size + 1) (W3.alloc (.cells zbw.toArray 78)) tc (by decide) (zaf tb m0) (zaf tb m1)
 have g2b : (W3.alloc (.cells zbw.toArray 78)).heap[w.heap.size + 2]? = some (.cells #[.int .i64 0, .int .i64 0, .string ⟨#[]⟩, .int .i64 0, .bool false] 78 (0, 0)) := zaw g2 tb
 have b4 : Below w.heap.size w (W3.alloc (.cells zbw.toArray 78)) := zac b3 _
 have I0 := zab.mk i0
 have TC := zab.mk tc
 have G2 := zab.mk g2b
 have B4 := zab.mk b4
 clear i0 tc g2b g2 b4 m0 m1 tb
 go_enter Tryd.func45, Tryd.ntmps45
 go_wp2_with fail
 have I1 := I0.out
 rw [hW3] at I1
 refine (show Calls Tryd.prog 53 _ _ _ from I1).mono ?_
 rintro e w2 ⟨rfl, hb2⟩
 rw [← hW3] at hb2
 have HB := zab.mk (zal B4.out hb2)
 have BK := zab.mk (zaw G2.out hb2)
 have TC2 := zab.mk (Kd.za9 TC.out hb2)
 clear hb2 I0 I1 TC G2 B4 hW3 hs3 b3
 clear W3
 have hz0 : w2.cell? ⟨w.heap.size + 2, 0, none⟩ = some (.int .i64 0) := (zae BK.out 0).trans rfl
 have hz1 : w2.cell? ⟨w.heap.size + 2, 1, none⟩ = some (.int .i64 0) := (zae BK.out 1).trans rfl
 have hz2 : w2.cell? ⟨w.heap.size + 2, 2, none⟩ = some (.string ⟨#[]⟩) := (zae BK.out 2).trans rfl
 have hz3 : w2.cell? ⟨w.heap.size + 2, 3, none⟩ = some (.int .i64 0) := (zae BK.out 3).trans rfl
 have hz4 : w2.cell? ⟨w.heap.size + 2, 4, none⟩ = some (.bool false) := (zae BK.out 4).trans rfl
 have hf0 := zah BK.out 0
 have hf1 := zah BK.out 1
 have hf2 := zah BK.out 2
 have hf3 := zah BK.out 3
 have hf4 := zah BK.out 4
 have H : (match idxOf a0 a1 za4 with | none => some (0, 0, ⟨#[]⟩, 0, false, false) | some i => some ((zbi za4 (i : Int)).f0, (zbi za4 (i : Int)).f1, (zbi za4 (i : Int)).f2, (zbi za4 (i : Int)).f3, (zbi za4 (i : Int)).f4, true)) = some (r1, r2, r3, r4, r5, r6) := HH.out
 clear HH
 obtain ⟨q, hq⟩ : ∃ q, q = idxOf a0 a1 za4 := ⟨_, rfl⟩
 rw [← hq] at H ⊢
 have HQ := zab.mk hq
 clear hq
 cases q with
 | none =>
  simp only [Option.some.injEq, Prod.mk.injEq] at H
  obtain ⟨rfl, rfl, rfl, rfl, rfl, rfl⟩ := H
  go_wp2
  (try simp only [Exit.inBlock, Exit.then])
  refine bodyPost_ret (v := .tuple #[.agg #[.int .i64 0, .int .i64 0, .string ⟨#[]⟩, .int .i64 0, .bool false], .bool false]) (by rw [results_cell_tmp rfl]; go_simp; done) rfl ?_
  exact ⟨rfl, by repeat (first | (with_reducible first | exact HB.out | apply zac | apply zaa | apply zad | refine zag ?_ (by omega)) | exact HB.out)⟩
 | some i =>
  have H1 : some ((zbi za4 (i : Int)).f0, (zbi za4 (i : Int)).f1, (zbi za4 (i : Int)).f2, (zbi za4 (i : Int)).f3, (zbi za4 (i : Int)).f4, true) = some (r1, r2, r3, r4, r5, r6) := H
  clear H
  have hi := idxOf_lt _ _ _ _ HQ.out.symm
  obtain ⟨ad, e0, hx0, hx1, hx2, hx3, hx4⟩ := at_T78 TC2.out (i : Int) (by omega) (by omega)
  injection e0 with e0
  subst e0
  rw [addr0] at hx0 hx1 hx2 hx3 hx4
  obtain ⟨x, hx⟩ : ∃ x : Int, x = idxInt (some i) := ⟨_, rfl⟩
  have hxi : x = (i : Int) := hx
  rw [← hxi] at hx0 hx1 hx2 hx3 hx4 H1
  rw [← hx]
  replace hx0 : w2.cell? ⟨w.heap.size + 1 + 1 + 1, x.toNat * 5, none⟩ = _ := hx0
  replace hx1 : w2.cell? ⟨w.heap.size + 1 + 1 + 1, x.toNat * 5 + 1, none⟩ = _ := hx1
  replace hx2 : w2.cell? ⟨w.heap.size + 1 + 1 + 1, x.toNat * 5 + 2, none⟩ = _ := hx2
  replace hx3 : w2.cell? ⟨w.heap.size + 1 + 1 + 1, x.toNat * 5 + 3, none⟩ = _ := hx3
  replace hx4 : w2.cell? ⟨w.heap.size + 1 + 1 + 1, x.toNat * 5 + 4, none⟩ = _ := hx4
  obtain ⟨y, hy⟩ : ∃ y, y = zbi za4 x := ⟨_, rfl⟩
  rw [← hy] at hx0 hx1 hx2 hx3 hx4 H1
  clear hy
  simp only [Option.some.injEq, Prod.mk.injEq] at H1
  obtain ⟨rfl, rfl, rfl, rfl, rfl, rfl⟩ := H1
  have hi24 : i < 24 := hi
  have hlt : decide (x < 0) = false := decide_eq_false (by omega)
  have p0 := eq_true (show (0 : Int) ≤ x by omega)
  have q0 := eq_true (show x < 24 by omega)
  clear hxi hx hi24 hi
  go_wp2
  (try simp only [Exit.inBlock, Exit.then])
  refine bodyPost_ret (v := .tuple #[.agg #[.int .i64 y.f0, .int .i64 y.f1, .string y.f2, .int .i64 y.f3, .bool y.f4], .bool true]) (by rw [results_cell_tmp rfl]; go_simp; done) rfl ?_
  exact ⟨rfl, by repeat (first | (with_reducible first | exact HB.out | apply zac | apply zaa | apply zad | refine zag ?_ (by omega)) | exact HB.out)⟩
end Go.Proofs.YtikmmigfdchcpaaDoor.PP
