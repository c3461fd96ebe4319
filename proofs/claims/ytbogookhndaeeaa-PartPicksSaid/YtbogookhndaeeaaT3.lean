/-
  Proved: the walk of incognitoref19.wakes and its neighbours.
  Conditions: none of ours (the form's own reach alone).
-/
import Derived.Test.YtbogookhndaeeaaQ2
import Derived.Test.YtbogookhndaeeaaQ3
namespace Go.Proofs.Ytbogookhndaeeaa.PP
open Go.RowKit Go.Proofs.YtbogookhndaeeaaW.PrintWords Go.Proofs.YtbogookhndaeeaaW.PrintLast Go.Proofs.YtbogookhndaeeaaW.PrintMore
set_option linter.unusedVariables false

def wkX : S32 := ⟨⟨0, 0, ⟨#[]⟩⟩, 0, ⟨2, 0, ⟨#[120]⟩⟩, 0, [], [], 0, 0⟩
def wkY : S32 := ⟨⟨0, 0, ⟨#[]⟩⟩, 0, ⟨2, 0, ⟨#[121]⟩⟩, 0, [], [], 0, 0⟩
theorem wk_objects : part_Objects.f 5 [wkX, wkY, wkX] = some [[0, 2], [1]] := by kernel_rfl
theorem wk_same : incognitoref19_Same.f 9 [[0, 2], [1]] [[0, 2], [1]] = some true := by kernel_rfl

theorem C_blk {α : Type} {d : Kd α} {W : World} {g t : Nat} {cs : Array Value} {xs : List α} (hb : W.heap[g]? = some (.cells cs t (0, 0))) (hr : Reps (d.K W) d.sz xs cs.toList) (hm : xs.length ≤ 9223372036854775807) :
    d.C W (some ⟨g, 0, none⟩) xs.length xs := by
  refine ⟨rfl, hm, fun _ => ⟨_, rfl, fun j p hj => ⟨(cs.toList.drop (j * d.sz)).take d.sz, ?_, hr.2 j p hj, fun i u hu => ?_⟩⟩⟩
  · exact d.K_len (hr.2 j p hj)
  · rw [add_plain]
    refine (blk_cell hb (j * d.sz + i)).trans ?_
    have hi : i < d.sz := by
      rcases Nat.lt_or_ge i d.sz with h | h
      · exact h
      · rw [List.getElem?_eq_none (by rw [List.length_take]; omega)] at hu
        cases hu
    rw [List.getElem?_take_of_lt hi, List.getElem?_drop] at hu
    rw [← hu]
    simp
theorem wkX_K (W : World) : k32.K W wkX [.int .i64 0, .int .i64 0, .string ⟨#[]⟩, .int .i64 0, .int .i64 2, .int .i64 0, .string ⟨#[120]⟩, .int .i64 0, .slice none 0 0, .slice none 0 0, .int .i64 0, .int .i64 0] :=
  k32_mk W wkX (A8 := none) (c8 := 0) (Nat.le_refl _) (Kd.C_nil _ _) (A9 := none) (c9 := 0) (Nat.le_refl _) (Kd.C_nil _ _)
theorem wkY_K (W : World) : k32.K W wkY [.int .i64 0, .int .i64 0, .string ⟨#[]⟩, .int .i64 0, .int .i64 2, .int .i64 0, .string ⟨#[121]⟩, .int .i64 0, .slice none 0 0, .slice none 0 0, .int .i64 0, .int .i64 0] :=
  k32_mk W wkY (A8 := none) (c8 := 0) (Nat.le_refl _) (Kd.C_nil _ _) (A9 := none) (c9 := 0) (Nat.le_refl _) (Kd.C_nil _ _)
theorem wk_reps (W : World) : Reps (k32.K W) k32.sz [wkX, wkY, wkX] (#[.int .i64 0, .int .i64 0, .string ⟨#[]⟩, .int .i64 0, .int .i64 2, .int .i64 0, .string ⟨#[120]⟩, .int .i64 0, .slice none 0 0, .slice none 0 0, .int .i64 0, .int .i64 0, .int .i64 0, .int .i64 0, .string ⟨#[]⟩, .int .i64 0, .int .i64 2, .int .i64 0, .string ⟨#[121]⟩, .int .i64 0, .slice none 0 0, .slice none 0 0, .int .i64 0, .int .i64 0, .int .i64 0, .int .i64 0, .string ⟨#[]⟩, .int .i64 0, .int .i64 2, .int .i64 0, .string ⟨#[120]⟩, .int .i64 0, .slice none 0 0, .slice none 0 0, .int .i64 0, .int .i64 0] : Array Value).toList :=
  (((Reps.none (k32.K W) k32.sz).snoc (wkX_K W) rfl).snoc (wkY_K W) rfl).snoc (wkX_K W) rfl
theorem blk3 (w : World) (o1 o2 o3 : Obj) : (((w.alloc o1).alloc o2).alloc o3).heap[w.heap.size + 1 + 1]? = some o3 := by
  have := heap_alloc_new ((w.alloc o1).alloc o2) o3
  simpa using this
theorem objects_wakes (W : World) (A : Option Addr) (hC : Kd.C k32 W A 3 [wkX, wkY, wkX]) :
    Calls Try.prog 9 #[.slice A 3 3] W fun e w' => ∃ v0_ : Value, e = .returned (v0_) ∧ Kd.S (Kd.slice 3 (Kd.int .i64)) 23 w' W.heap.size (fun _ => True) v0_ [[0, 2], [1]] ∧ Below W.heap.size W w' :=
  part_Objects.calls 5 A 3 [wkX, wkY, wkX] [[0, 2], [1]] W hC (Nat.le_refl 3) wk_objects
theorem same_wakes (W : World) (A0 A1 : Option Addr) (c0 c1 : Nat) (h0 : Kd.C (Kd.slice 3 (Kd.int .i64)) W A0 2 [[0, 2], [1]]) (hc0 : 2 ≤ c0) (h1 : Kd.C (Kd.slice 3 (Kd.int .i64)) W A1 2 [[0, 2], [1]]) (hc1 : 2 ≤ c1) :
    Calls Try.prog 8 #[.slice A0 2 c0, .slice A1 2 c1] W fun e w' => e = .returned (.bool true) ∧ Drawn0 W w' :=
  incognitoref19_Same.calls 9 A0 c0 [[0, 2], [1]] A1 c1 [[0, 2], [1]] true W h0 hc0 h1 hc1 wk_same
theorem blk1 (w : World) (o1 o2 o3 : Obj) : (((w.alloc o1).alloc o2).alloc o3).heap[w.heap.size]? = some o1 := by
  have h1 := heap_alloc_new w o1
  have h2 := (Below.heap_alloc (w.alloc o1) o2 w.heap.size (by simp)).trans h1
  exact (Below.heap_alloc ((w.alloc o1).alloc o2) o3 w.heap.size (by simp; omega)).trans h2
theorem blk2 (w : World) (o1 o2 o3 : Obj) : (((w.alloc o1).alloc o2).alloc o3).heap[w.heap.size + 1]? = some o2 := by
  have h1 := heap_alloc_new (w.alloc o1) o2
  have h2 : ((w.alloc o1).alloc o2).heap[w.heap.size + 1]? = some o2 := by simpa using h1
  exact (Below.heap_alloc ((w.alloc o1).alloc o2) o3 (w.heap.size + 1) (by simp)).trans h2
theorem wk_lit (W : World) (B : Nat) (h0 : W.heap[B]? = some (.cells #[.int .i64 0, .int .i64 2] 3 (0, 0))) (h1 : W.heap[B + 1]? = some (.cells #[.int .i64 1] 3 (0, 0))) (h2 : W.heap[B + 1 + 1]? = some (.cells #[.slice (some ⟨B, 0, none⟩) 2 2, .slice (some ⟨B + 1, 0, none⟩) 1 1] 23 (0, 0))) :
    Kd.C (Kd.slice 3 (Kd.int .i64)) W (some ⟨B + 1 + 1, 0, none⟩) 2 [[0, 2], [1]] := by
  have a0 : Kd.C (Kd.int .i64) W (some ⟨B, 0, none⟩) 2 [0, 2] := C_blk (xs := [0, 2]) h0 (Reps.one (show Kd.K (Kd.int .i64) _ 0 [.int .i64 0] from rfl) (Reps.one (show Kd.K (Kd.int .i64) _ 2 [.int .i64 2] from rfl) (Reps.none _ _))) (by decide)
  have a1 : Kd.C (Kd.int .i64) W (some ⟨B + 1, 0, none⟩) 1 [1] := C_blk (xs := [1]) h1 (Reps.one (show Kd.K (Kd.int .i64) _ 1 [.int .i64 1] from rfl) (Reps.none _ _)) (by decide)
  exact C_blk (xs := [[0, 2], [1]]) h2 (Reps.one (show Kd.K (Kd.slice 3 (Kd.int .i64)) _ [0, 2] [.slice (some ⟨B, 0, none⟩) 2 2] from ⟨_, _, rfl, Nat.le_refl _, a0⟩) (Reps.one (show Kd.K (Kd.slice 3 (Kd.int .i64)) _ [1] [.slice (some ⟨B + 1, 0, none⟩) 1 1] from ⟨_, _, rfl, Nat.le_refl _, a1⟩) (Reps.none _ _))) (by decide)
set_option maxHeartbeats 400000 in
theorem wakes_true (w : World) : Calls Try.prog 4 #[] w fun e w' => e = .returned (.bool true) ∧ Below w.heap.size w w' := by
  have HB := Aside0.mk (Below.refl w.heap.size w)
  go_enter Try.func4, Try.ntmps4
  go_wp2_with fail
  refine (objects_wakes _ _ ?hC).mono ?_
  case hC => exact C_blk (blk3 _ _ _ _) (wk_reps _) (by decide)
  rintro e w1 ⟨v1, rfl, ho1, hb1⟩
  have HB1 := Aside0.mk (Below.trans (((HB.out.alloc (Nat.le_refl _) _).alloc (by simp) _).alloc (by simp; omega) _) (hb1.mono (by simp; omega)))
  obtain ⟨A1, c1, e1⟩ := Kd.S_slice ho1
  subst e1
  have HR := Aside0.mk (Kd.S_reads' ho1)
  clear ho1 hb1
  go_wp2_with fail
  refine (same_wakes _ _ _ _ _ ?h0 ?hc0 ?h1 ?hc1).mono ?_
  case h0 => exact Kd.C_alloc (Kd.C_alloc (Kd.C_alloc HR.out.2.2 _) _) _
  case hc0 => exact HR.out.2.1
  case h1 => exact wk_lit _ _ (blk1 _ _ _ _) (blk2 _ _ _ _) (blk3 _ _ _ _)
  case hc1 => exact Nat.le_refl _
  rintro e w2 ⟨rfl, ⟨nd, rfl⟩⟩
  have HB2 := Aside0.mk (pw_below_drewN (((HB1.out.alloc HB1.out.size (.cells #[.int .i64 0, .int .i64 2] 3)).alloc (by have := HB1.out.size; simp; omega) (.cells #[.int .i64 1] 3)).alloc (by have := HB1.out.size; simp; omega) (.cells #[.slice (some ⟨w1.heap.size, 0, none⟩) 2 2, .slice (some ⟨w1.heap.size + 1, 0, none⟩) 1 1] 23)) nd)
  go_wp2
  go_ret
  exact ⟨rfl, HB2.out⟩
end Go.Proofs.Ytbogookhndaeeaa.PP
