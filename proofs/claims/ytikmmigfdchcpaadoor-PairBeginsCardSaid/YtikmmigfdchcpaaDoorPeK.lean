/-
  Proved: a part of the proof of the claim's statement (text K of it).
  Conditions: none of ours.
-/
import Derived.Test.YtikmmigfdchcpaaDoorPeQ0
import Derived.Test.YtikmmigfdchcpaaDoorPeA
namespace Go.Proofs.YtikmmigfdchcpaaDoor.PP
open Go.RowKit Go.Proofs.YtikmmigfdchcpaaDoorW.PrintWords Go.Proofs.YtikmmigfdchcpaaDoorW.PrintLast Go.Proofs.YtikmmigfdchcpaaDoorW.PrintMore
set_option linter.unusedVariables false
set_option linter.unusedSimpArgs false
noncomputable def zb5.f (k : Nat) (l : List S47) : Option (Int × Int) := if l.length ≤ 1000 then (allF k l).bind fun r => some (r.1, r.2.1) else none
set_option maxHeartbeats 8000000 in
set_option maxRecDepth 100000 in
theorem zb5.calls (k : Nat) (A0 : Option Addr) (c0 : Nat) (l : List S47) (r1 r2 : Int) (w : World) (hG : Glob w) (hr0 : Kd.C k47 w A0 l.length l) (hc0 : l.length ≤ c0) (h : zb5.f k l = some (r1, r2)) :
  Calls Tryd.prog 10 #[.slice A0 l.length c0] w fun e w' => e = .returned (.agg #[.int .i64 r1, .int .i64 r2]) ∧ Below w.heap.size w w' := by
 have hu27 := Tryd.underlying27
 unfold zb5.f at h
 by_cases hl : l.length ≤ 1000
 ·rw [if_pos hl] at h
  obtain ⟨⟨e1, at1, s1⟩, A1, h⟩ := Option.bind_eq_some_iff.mp h
  simp only [Option.some.injEq, Prod.mk.injEq] at h
  obtain ⟨rfl, rfl⟩ := h
  have HL := zab.mk hl
  have AR := zab.mk A1
  clear hl A1
  obtain ⟨W1, hW1⟩ : ∃ W1, W1 = w.alloc (.cells #[.int .i64 0, .int .i64 0] 27) := ⟨_, rfl⟩
  have HB1 := zab.mk (show Below w.heap.size w W1 by rw [hW1]; exact zac (Below.refl _ _) _)
  have BR1 := zab.mk (show W1.heap[w.heap.size]? = some (.cells #[.int .i64 0, .int .i64 0] 27 (0, 0)) by rw [hW1]; exact heap_alloc_new _ _)
  have HR0 := zab.mk (Kd.za9 hr0 HB1.out)
  have HG := zab.mk (za7 hG HB1.out)
  have HC0 := zab.mk hc0
  clear hr0 hG hc0
  go_enter Tryd.func10, Tryd.ntmps10
  go_wp2_with (fail)
  rw [← hW1]
  clear hW1
  refine (all.calls k A0 c0 l e1 at1 s1 W1 HG.out HR0.out HC0.out HL.out AR.out).mono ?_
  rintro e w2 ⟨g, rfl, hb2, hcl⟩
  have HB2 := zab.mk (za1 HB1.out HB1.out.size hb2)
  have BR2 := zab.mk (zaw BR1.out hb2)
  clear hb2 hcl
  go_upto_region 2 with (((with_reducible refine za2 (N := 4) rfl ?_); refine zay ?hg (N := 4) ?hd (cs := #[.int .i64 0, .int .i64 0]) (t := 27) ?hr ?_; (case hd => rfl); (case hg => rfl); (case hr => first | (go_simp; done) | (go_simp; rfl)); intro gb hg w3 hbox hb; have HB3 := zab.mk (za1 HB2.out HB2.out.size hb); have BX := zab.mk hbox; have BR3 := zab.mk (zaw BR2.out hb); have GE := zab.mk (show w.heap.size < gb by rw [hg]; exact zbp BR2.out); clear hb hbox hg; have x0 : w3.cell? ⟨gb, 0, none⟩ = some (.int .i64 0) := (zae BX.out 0).trans rfl; have x1 : w3.cell? ⟨gb, 1, none⟩ = some (.int .i64 0) := (zae BX.out 1).trans rfl; have f0 := zah BX.out 0; have f1 := zah BX.out 1))
  refine zb0 (G := fun W => Code.wp _ _ _ _ W) _ (fun W4 hW4 => ?_)
  have BX4 := zab.mk (show W4.heap[gb]? = some (.cells #[.int .i64 e1, .int .i64 at1] 27 (0, 0)) by rw [hW4]; exact zaz (cs := #[.int .i64 e1, .int .i64 0]) (zaz (cs := #[.int .i64 0, .int .i64 0]) (cs' := #[.int .i64 e1, .int .i64 0]) BX.out 0 (.int .i64 e1) rfl) 1 (.int .i64 at1) rfl)
  have hne : w.heap.size ≠ gb := by have := GE.out; omega
  have BR4 := zab.mk (show W4.heap[w.heap.size]? = some (.cells #[.int .i64 0, .int .i64 0] 27 (0, 0)) by rw [hW4]; exact blk_off (blk_off BR3.out hne 0 _) hne 1 _)
  have HB4 := zab.mk (show Below w.heap.size w W4 by rw [hW4]; exact (HB3.out.setCell (p := ⟨gb, 0, none⟩) (by have := GE.out; show w.heap.size ≤ gb; omega) _).setCell (p := ⟨gb, 1, none⟩) (by have := GE.out; show w.heap.size ≤ gb; omega) _)
  clear hW4 hne x0 x1 f0 f1 BX BR3 HB3 BR2 HB2
  have x0 : W4.cell? ⟨gb, 0, none⟩ = some (.int .i64 e1) := (zae BX4.out 0).trans rfl
  have x1 : W4.cell? ⟨gb, 1, none⟩ = some (.int .i64 at1) := (zae BX4.out 1).trans rfl
  have y0 : W4.cell? ⟨w.heap.size, 0, none⟩ = some (.int .i64 0) := (zae BR4.out 0).trans rfl
  have y1 : W4.cell? ⟨w.heap.size, 1, none⟩ = some (.int .i64 0) := (zae BR4.out 1).trans rfl
  have f0 := zah BR4.out 0
  have f1 := zah BR4.out 1
  go_wp2
  have BR6 := zaz (cs := #[.int .i64 e1, .int .i64 0]) (cs' := #[.int .i64 e1, .int .i64 at1]) (zaz (cs := #[.int .i64 0, .int .i64 0]) (cs' := #[.int .i64 e1, .int .i64 0]) BR4.out 0 (.int .i64 e1) rfl) 1 (.int .i64 at1) rfl
  refine bodyPost_ret (results_cell_row rfl _ _ w.heap.size 27 #[.int .i64 e1, .int .i64 at1] (0, 0) _ rfl BR6 hu27 rfl info27s) rfl ?_
  exact ⟨rfl, (HB4.out.setCell (p := ⟨w.heap.size, 0, none⟩) (Nat.le_refl _) _).setCell (p := ⟨w.heap.size, 1, none⟩) (Nat.le_refl _) _⟩
 ·rw [if_neg hl] at h
  cases h
end Go.Proofs.YtikmmigfdchcpaaDoor.PP
