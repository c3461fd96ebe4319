/-
  Proved: the first part of the walk of incognitolaw19.PartPicks.
  Conditions: none of ours (the form's own reach alone).
-/
import Derived.Test.YtbogookhndaeeaaT3
import Derived.Test.YtbogookhndaeeaaT4
import Derived.Test.YtbogookhndaeeaaQ1
import Derived.Outline
namespace Go.Proofs.Ytbogookhndaeeaa.PP
open Go.RowKit Go.Proofs.YtbogookhndaeeaaW.PrintWords Go.Proofs.YtbogookhndaeeaaW.PrintLast Go.Proofs.YtbogookhndaeeaaW.PrintMore
set_option linter.unusedVariables false
theorem heap_k29 : Kd.Heap k29 := Kd.heap_iso _ (Kd.heap_pair (Kd.heap_int .i64) (Kd.heap_pair (Kd.heap_int .i64) Kd.heap_string))
theorem heap_k32 : Kd.Heap k32 := Kd.heap_iso _ (Kd.heap_pair heap_k29 (Kd.heap_pair (Kd.heap_int .i64) (Kd.heap_pair heap_k29 (Kd.heap_pair (Kd.heap_int .i64) (Kd.heap_pair (Kd.heap_slice 29 heap_k29) (Kd.heap_pair (Kd.heap_slice 29 heap_k29) (Kd.heap_pair (Kd.heap_int .i64) (Kd.heap_int .i64))))))))
theorem c_pick (W : World) (A A1 : Option Addr) (c c1 : Nat) (l0 : List S32) (l1 : List Int) (h0 : Kd.C k32 W A l0.length l0) (hc0 : l0.length ≤ c) (h1 : Kd.C (Kd.int .i64) W A1 l1.length l1) (hc1 : l1.length ≤ c1) (hs : Small l0) (hl : l1.length ≤ 100) :
    Calls Try.prog 5 #[.slice A l0.length c, .slice A1 l1.length c1] W fun e w' => ∃ v, e = .returned v ∧ Kd.S k32 32 w' W.heap.size (fun _ => True) v (picks l0 l1) ∧ Below W.heap.size W w' :=
  part_Pick.calls 201 A c l0 A1 c1 l1 (picks l0 l1) W h0 hc0 h1 hc1 (pick_eq l0 hs l1 hl 201 (by omega))
theorem c_ref (W : World) (P0 : Nat → Prop) (A A1 : Option Addr) (c c1 : Nat) (l0 : List S32) (l1 : List Int) (h0 : Kd.V k32 32 W W.heap.size (fun k => P0 k) (.slice A l0.length c) l0) (h1 : Kd.C (Kd.int .i64) W A1 l1.length l1) (hc1 : l1.length ≤ c1) (hl : l1.length ≤ 100) :
    Calls Try.prog 7 #[.slice A l0.length c, .slice A1 l1.length c1] W fun e w' => ∃ v, e = .returned v ∧ Kd.N k32 32 w' W.heap.size (fun k => (P0 k ∨ W.heap.size ≤ k)) v (picks l0 l1) ∧ Below W.heap.size W w' :=
  incognitoref19_Pick.calls 101 P0 A c l0 A1 c1 l1 (picks l0 l1) W h0 h1 hc1 (refPick_eq l0 l1 hl 101 (by omega))
theorem c_same (W : World) (A0 A1 : Option Addr) (c0 c1 : Nat) (l : List S32) (h0 : Kd.C k32 W A0 l.length l) (hc0 : l.length ≤ c0) (h1 : Kd.C k32 W A1 l.length l) (hc1 : l.length ≤ c1) (hs : Small l) (hl : l.length ≤ 100) :
    Calls Try.prog 6 #[.slice A0 l.length c0, .slice A1 l.length c1] W fun e w' => e = .returned (.bool true) ∧ Below W.heap.size W w' :=
  incognitoref12_Same.calls 4398046511305 A0 c0 l A1 c1 l true W h0 hc0 h1 hc1 (same_eq l hs hl _ (by omega))

/-- What is known of the picked operations while they are written over. -/
def OutOK (go B1 B2 : Nat) (R : List S32) (W : World) : Prop :=
  go < B2 ∧ ∀ i, i < R.length → ∃ Ai ci, W.cell? ⟨go, i * 12 + 8, none⟩ = some (.slice Ai (rd_T32 R (i : Int)).f4.length ci) ∧ (rd_T32 R (i : Int)).f4.length ≤ ci ∧
    ∀ k, k < (rd_T32 R (i : Int)).f4.length → ∃ gi x, Ai = some ⟨gi, 0, none⟩ ∧ B1 ≤ gi ∧ gi < B2 ∧ gi ≠ go ∧ W.cell? ⟨gi, k * 3 + 1, none⟩ = some (.int .i64 x) ∧ W.frozen? ⟨gi, k * 3 + 1, none⟩ = false
theorem OutOK.below {go B1 B2 : Nat} {R : List S32} {W W' : World} (h : OutOK go B1 B2 R W) (hb : Below B2 W W') : OutOK go B1 B2 R W' := by
  refine ⟨h.1, fun i hi => ?_⟩
  obtain ⟨Ai, ci, hc, hle, hk⟩ := h.2 i hi
  refine ⟨Ai, ci, (hb.cell (p := ⟨go, i * 12 + 8, none⟩) h.1).trans hc, hle, fun k hlt => ?_⟩
  obtain ⟨gi, x, he, h1, h2, h3, h4, h5⟩ := hk k hlt
  exact ⟨gi, x, he, h1, h2, h3, (hb.cell (p := ⟨gi, k * 3 + 1, none⟩) h2).trans h4, (hb.frozen (p := ⟨gi, k * 3 + 1, none⟩) h2).trans h5⟩
theorem OutOK.set {go B1 B2 : Nat} {R : List S32} {W : World} (h : OutOK go B1 B2 R W) {g j : Nat} (hg : g ≠ go) (y : Int) : OutOK go B1 B2 R (W.setCell ⟨g, j, none⟩ (.int .i64 y)) := by
  refine ⟨h.1, fun i hi => ?_⟩
  obtain ⟨Ai, ci, hc, hle, hk⟩ := h.2 i hi
  refine ⟨Ai, ci, ?_, hle, fun k hlt => ?_⟩
  · rw [World.cell?_setCell_other _ _ _ _ (by intro e; injection e with e1; exact hg e1)]
    exact hc
  · obtain ⟨gi, x, he, h1, h2, h3, h4, h5⟩ := hk k hlt
    obtain ⟨v', hv'⟩ : ∃ x', (W.setCell ⟨g, j, none⟩ (.int .i64 y)).cell? ⟨gi, k * 3 + 1, none⟩ = some (.int .i64 x') := by
      by_cases e : (⟨gi, k * 3 + 1, none⟩ : Addr) = ⟨g, j, none⟩
      · rw [← e]
        exact ⟨y, World.cell?_setCell_same _ _ _ h4⟩
      · exact ⟨x, by rw [World.cell?_setCell_other _ _ _ _ (fun h => e h.symm)]; exact h4⟩
    exact ⟨gi, v', he, h1, h2, h3, hv', by rw [World.frozen?_setCell]; exact h5⟩
theorem OutOK.of_S {g B1 n cap : Nat} {R : List S32} {W : World} (h : Kd.S k32 32 W B1 (fun _ => True) (.slice (some ⟨g, 0, none⟩) n cap) R) : OutOK g B1 W.heap.size R W := by
  have hn := (Kd.S_reads' h).1
  have hR := Kd.R_bound (Kd.S_R h)
  have hg : g < W.heap.size := (hR.1 g (by simp [Value.ownBlock])).2.2.1
  refine ⟨hg, fun i hi => ?_⟩
  obtain ⟨c, hcl, hM, hcc, _⟩ := Kd.R_elem hR z32 (i : Int) (by omega) (by omega)
  rw [show R.getD (i : Int).toNat z32 = rd_T32 R (i : Int) from rfl] at hM
  obtain ⟨v8, v9, rfl, h8, h9⟩ := k32_openM hM
  obtain ⟨A8, c8, rfl⟩ := Kd.R_slice h8
  have hle := (Kd.R_reads' h8).2.1
  have hcell := hcc 8 _ rfl
  rw [Int.toNat_natCast, show k32.sz = 12 from rfl] at hcell
  refine ⟨A8, c8, hcell, hle, fun k hk => ?_⟩
  obtain ⟨gi, cap', he, _⟩ := Kd.R_form h8 (by omega)
  injection he with he1 _ _
  subst he1
  have hgi := h8.1 gi (by simp [Value.ownBlock])
  obtain ⟨c', _, hM', hcc', hfr'⟩ := Kd.R_elem h8 z29 (k : Int) (by omega) (by omega)
  obtain rfl := k29_openM hM'
  have hx := hcc' 1 _ rfl
  have hf := hfr' 1
  rw [Int.toNat_natCast, show k29.sz = 3 from rfl] at hx hf
  exact ⟨gi, _, rfl, hgi.1.2.1, hgi.1.2.2.1, hgi.2, hx, hf⟩
end Go.Proofs.Ytbogookhndaeeaa.PP
