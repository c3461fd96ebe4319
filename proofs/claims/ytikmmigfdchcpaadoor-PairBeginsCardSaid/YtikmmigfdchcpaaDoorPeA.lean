/-
  Proved: a part of the proof of the claim's statement (text A of it).
  Conditions: none of ours.
-/
import Derived.Test.YtikmmigfdchcpaaDoorPeQ0
import Derived.Test.YtikmmigfdchcpaaDoorPeS
namespace Go.Proofs.YtikmmigfdchcpaaDoor.PP
open Go.RowKit Go.Proofs.YtikmmigfdchcpaaDoorW.PrintWords Go.Proofs.YtikmmigfdchcpaaDoorW.PrintLast Go.Proofs.YtikmmigfdchcpaaDoorW.PrintMore
set_option linter.unusedVariables false
set_option linter.unusedSimpArgs false
noncomputable def allL (k : Nat) (l : List S47) : Nat → Int → St → Option (Int × Int × St)
 | 0, _, _ => none
 | n + 1, i, s => if i < (l.length : Int) then (stepF k l i s).bind fun r => (if r.1 = 0 then allL k l n (i + 1) r.2 else some (r.1, i + 1, r.2)) else some (0, 0, s)
noncomputable def allF (k : Nat) (l : List S47) : Option (Int × Int × St) := allL k l (l.length + 1) 0 (st0 (l.length : Int))
theorem info27s : (Tryd.prog.info? 27).map (·.size) = some 2 := by kernel_rfl
set_option maxHeartbeats 8000000 in
set_option maxRecDepth 100000 in
theorem all.calls (k : Nat) (A0 : Option Addr) (c0 : Nat) (l : List S47) (e0 at0 : Int) (s0 : St) (w : World) (hG : Glob w) (hr0 : Kd.C k47 w A0 l.length l) (hc0 : l.length ≤ c0) (hl : l.length ≤ 1000) (h : allF k l = some (e0, at0, s0)) :
  Calls Tryd.prog 20 #[.slice A0 l.length c0] w fun e w' => ∃ g : Nat, e = .returned (.tuple #[.pointer (some ⟨g, 0, none⟩), .agg #[.int .i64 e0, .int .i64 at0]]) ∧ Below w.heap.size w w' ∧
   (e0 = 0 → ∃ bm lm n1 n2 vg ve, Cl w' w.heap.size g bm lm n1 n2 vg ve s0) := by
 have hu27 := Tryd.underlying27
 have HL := zab.mk hl
 clear hl
 obtain ⟨W1, hW1⟩ : ∃ W1, W1 = w.alloc (.cells #[.int .i64 0, .int .i64 0] 27) := ⟨_, rfl⟩
 have HB1 := zab.mk (show Below w.heap.size w W1 by rw [hW1]; exact zac (Below.refl _ _) _)
 have BR1 := zab.mk (show W1.heap[w.heap.size]? = some (.cells #[.int .i64 0, .int .i64 0] 27 (0, 0)) by rw [hW1]; exact heap_alloc_new _ _)
 have HZ1 := zab.mk (show w.heap.size < W1.heap.size by rw [hW1]; simp)
 have HR0 := zab.mk (Kd.za9 hr0 HB1.out)
 have HG := zab.mk (za7 hG HB1.out)
 have HC0 := zab.mk hc0
 have HH := zab.mk h
 clear hr0 hG hc0 h
 go_enter Tryd.func20, Tryd.ntmps20
 go_wp2_with (fail)
 rw [← hW1]
 clear hW1
 refine (begun.calls (l.length : Int) (by omega) (by have := HL.out; omega) W1).mono ?_
 rintro e w2 ⟨g, bm, lm, vg, ve, rfl, hCl, hb2⟩
 have HC := zab.mk hCl
 have HB := zab.mk hb2
 have HGG := zab.mk hCl.hg
 clear hCl hb2
 go_wp2_with fail
 unfold allF at HH
 go_loopg [12] (l.length + 1) (fun kq v12 w' => ∃ (i : Nat) (s : St) (n1 n2 : Nat) (vg ve : Value), v12 = .int .i64 (i : Int) ∧ zab (allL k l kq (i : Int) s = some (e0, at0, s0)) ∧ zab (n1 ≤ i) ∧ zab (n2 ≤ i) ∧ zab (Cl w' W1.heap.size g bm lm n1 n2 vg ve s) ∧ zab (Below W1.heap.size W1 w'))
 case atStart => exact ⟨0, _, 0, 0, vg, ve, rfl, HH, ⟨Nat.zero_le _⟩, ⟨Nat.zero_le _⟩, HC, HB⟩
 case round =>
  clear HH HC HB
  obtain ⟨i, s, n1, n2, vg, ve, rfl, HA, HN1, HN2, HC, HB⟩ := hrel
  cases gk with
  | zero => exact absurd HA.out (by simp [allL])
  | succ k1 =>
   have H := HA.out
   clear HA
   simp only [allL] at H
   by_cases c2 : (i : Int) < (l.length : Int)
   ·rw [if_pos c2] at H
    have c2b0 : decide ((i : Int) < (l.length : Int)) = true := decide_eq_true c2
    have c2b1 : decide (i < l.length) = true := decide_eq_true (by omega)
    have CI := zab.mk c2
    clear c2
    replace H := Option.bind_eq_some_iff.mp H
    obtain ⟨⟨e1, s1⟩, A3, H⟩ := H
    replace H : (if e1 = 0 then allL k l k1 ((i : Int) + 1) s1 else some (e1, (i : Int) + 1, s1)) = some (e0, at0, s0) := H
    have A3 := zab.mk A3
    have hi1000 : i < 1000 := by have := CI.out; have := HL.out; omega
    by_cases c4 : e1 = 0
    ·subst c4
     rw [if_pos rfl] at H
     have HA := zab.mk H
     clear H
     go_wp2_with fail
     refine (see.calls k W1 wr A0 c0 l (i : Int) g bm lm n1 n2 vg ve s 0 s1 HG.out HR0.out HC0.out HB.out HC.out (by have := HN1.out; omega) (by have := HN2.out; omega) A3.out).mono ?_
     rintro e w5 ⟨rfl, hb5, hcl⟩
     obtain ⟨n1', n2', vg', ve', hn1, hn2, hcl⟩ := hcl rfl
     have HC5 := zab.mk hcl
     have HB5 := zab.mk hb5
     have HN15 := zab.mk (show n1' ≤ i + 1 by have := HN1.out; omega)
     have HN25 := zab.mk (show n2' ≤ i + 1 by have := HN2.out; omega)
     clear hcl hb5 hn1 hn2 HC HB
     go_wp2
     go_roundg k1
     case measure => omega
     case rel => exact ⟨i + 1, s1, n1', n2', vg', ve', by go_num, HA, HN15, HN25, HC5, HB5⟩
    ·rw [if_neg c4] at H
     have c4b0 : (e1 == 0) = false := beq_eq_false_iff_ne.mpr c4
     have c4b1 : (e1 != 0) = true := bne_iff_ne.mpr c4
     have C4 := zab.mk c4
     clear c4
     simp only [Option.some.injEq, Prod.mk.injEq] at H
     obtain ⟨rfl, rfl, rfl⟩ := H
     go_wp2_with fail
     refine (see.calls k W1 wr A0 c0 l (i : Int) g bm lm n1 n2 vg ve s e1 s1 HG.out HR0.out HC0.out HB.out HC.out (by have := HN1.out; omega) (by have := HN2.out; omega) A3.out).mono ?_
     rintro e w5 ⟨rfl, hb5, hcl⟩
     have HB5 := zab.mk hb5
     have BR5 := zab.mk (zaw BR1.out hb5)
     clear hcl hb5 HC HB
     have x0 : w5.cell? ⟨w.heap.size, 0, none⟩ = some (.int .i64 0) := (zae BR5.out 0).trans rfl
     have x1 : w5.cell? ⟨w.heap.size, 1, none⟩ = some (.int .i64 0) := (zae BR5.out 1).trans rfl
     have f0 := zah BR5.out 0
     have f1 := zah BR5.out 1
     go_wp2
     (try simp only [Exit.inBlock, Exit.then])
     have BR6 := zaz (cs := #[.int .i64 e1, .int .i64 0]) (cs' := #[.int .i64 e1, .int .i64 ((i : Int) + 1)]) (zaz (cs := #[.int .i64 0, .int .i64 0]) (cs' := #[.int .i64 e1, .int .i64 0]) BR5.out 0 (.int .i64 e1) rfl) 1 (.int .i64 ((i : Int) + 1)) rfl
     refine bodyPost_ret (v := .tuple #[.pointer (some ⟨g, 0, none⟩), .agg #[.int .i64 e1, .int .i64 ((i : Int) + 1)]]) (results_tc (fn := Tryd.f20) (p := 3) (u := 2) (ty := 27) rfl _ _ w.heap.size 27 _ _ _ rfl BR6 hu27 rfl info27s) rfl ?_
     exact ⟨g, rfl, ((za1 HB1.out HB1.out.size HB5.out).setCell (p := ⟨w.heap.size, 0, none⟩) (Nat.le_refl _) _).setCell (p := ⟨w.heap.size, 1, none⟩) (Nat.le_refl _) _, fun e => absurd e C4.out⟩
   ·rw [if_neg c2] at H
    have c2b0 : decide ((i : Int) < (l.length : Int)) = false := decide_eq_false c2
    have c2b1 : decide (i < l.length) = false := decide_eq_false (by omega)
    clear c2
    simp only [Option.some.injEq, Prod.mk.injEq] at H
    obtain ⟨rfl, rfl, rfl⟩ := H
    have BR5 := zab.mk (zaw BR1.out HB.out)
    have x0 : wr.cell? ⟨w.heap.size, 0, none⟩ = some (.int .i64 0) := (zae BR5.out 0).trans rfl
    have x1 : wr.cell? ⟨w.heap.size, 1, none⟩ = some (.int .i64 0) := (zae BR5.out 1).trans rfl
    have f0 := zah BR5.out 0
    have f1 := zah BR5.out 1
    go_wp2
    (try simp only [Exit.inBlock, Exit.then])
    have BR6 := zaz (cs := #[.int .i64 0, .int .i64 0]) (cs' := #[.int .i64 0, .int .i64 0]) (zaz (cs := #[.int .i64 0, .int .i64 0]) (cs' := #[.int .i64 0, .int .i64 0]) BR5.out 0 (.int .i64 0) rfl) 1 (.int .i64 0) rfl
    refine bodyPost_ret (v := .tuple #[.pointer (some ⟨g, 0, none⟩), .agg #[.int .i64 0, .int .i64 0]]) (results_tc (fn := Tryd.f20) (p := 3) (u := 2) (ty := 27) rfl _ _ w.heap.size 27 _ _ _ rfl BR6 hu27 rfl info27s) rfl ?_
    exact ⟨g, rfl, ((za1 HB1.out HB1.out.size HB.out).setCell (p := ⟨w.heap.size, 0, none⟩) (Nat.le_refl _) _).setCell (p := ⟨w.heap.size, 1, none⟩) (Nat.le_refl _) _, bm, lm, n1, n2, vg, ve, ((HC.out.far BR5.out 0 (.int .i64 0)).far (zaz (cs := #[.int .i64 0, .int .i64 0]) (cs' := #[.int .i64 0, .int .i64 0]) BR5.out 0 (.int .i64 0) rfl) 1 (.int .i64 0)).lower HB1.out.size⟩
end Go.Proofs.YtikmmigfdchcpaaDoor.PP
