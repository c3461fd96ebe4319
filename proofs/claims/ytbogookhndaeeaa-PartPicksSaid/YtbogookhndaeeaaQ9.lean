-- A text of this seat: turned out of what the print tool wrote.
import Derived.Test.YtbogookhndaeeaaQ0
import Derived.Test.YtbogookhndaeeaaQ8
namespace Go.Proofs.Ytbogookhndaeeaa.PP
open Go.RowKit Go.Proofs.YtbogookhndaeeaaW.PrintWords Go.Proofs.YtbogookhndaeeaaW.PrintLast Go.Proofs.YtbogookhndaeeaaW.PrintMore
attribute [local go_sem] max2_int min2_int max_two min_two max_three min_three max_four min_four   -- for this text's walks alone
set_option linter.unusedVariables false
set_option linter.unusedSimpArgs false

/-! ### incognitoref12_Same: function 6 -/
def incognitoref12_Same.l0 : Nat → List (S32) → List (S32) → Int → Option (Bool)
  | 0, _, _, _ => none
  | k + 1, x0, x1, x5 => if x5 < (x0.length : Int) then (if 0 ≤ x5 then (if x5 < (x1.length : Int) then ((incognitoref12_One.f k ((rd_T32 x0 x5).f0.f0) ((rd_T32 x0 x5).f0.f1) ((rd_T32 x0 x5).f0.f2) ((rd_T32 x0 x5).f1) ((rd_T32 x0 x5).f2.f0) ((rd_T32 x0 x5).f2.f1) ((rd_T32 x0 x5).f2.f2) ((rd_T32 x0 x5).f3) ((rd_T32 x0 x5).f4) ((rd_T32 x0 x5).f5) ((rd_T32 x0 x5).f6) ((rd_T32 x0 x5).f7) ((rd_T32 x1 x5).f0.f0) ((rd_T32 x1 x5).f0.f1) ((rd_T32 x1 x5).f0.f2) ((rd_T32 x1 x5).f1) ((rd_T32 x1 x5).f2.f0) ((rd_T32 x1 x5).f2.f1) ((rd_T32 x1 x5).f2.f2) ((rd_T32 x1 x5).f3) ((rd_T32 x1 x5).f4) ((rd_T32 x1 x5).f5) ((rd_T32 x1 x5).f6) ((rd_T32 x1 x5).f7)).bind fun t146 => (if t146 = true then (incognitoref12_Same.l0 k x0 x1 (wrap64 (x5 + 1))) else (some false))) else (none)) else (none)) else (some true)
def incognitoref12_Same.f (k : Nat) (l0 : List (S32)) (l1 : List (S32)) : Option (Bool) := if (l0.length : Int) = (l1.length : Int) then (incognitoref12_Same.l0 k l0 l1 0) else (some false)
theorem incognitoref12_Same.mono_l : ∀ k, (∀ y0 y1 y2, LeO (incognitoref12_Same.l0 k y0 y1 y2) (incognitoref12_Same.l0 (k + 1) y0 y1 y2))
  | 0 => fun _ _ _ r h => by simp [incognitoref12_Same.l0] at h
  | k + 1 => by
    have ih0 := incognitoref12_Same.mono_l k
    · intro y0 y1 y2
      unfold incognitoref12_Same.l0
      repeat' first
      | (with_reducible exact ih0 _ _ _)
      | (with_reducible exact incognitoref12_One.mono _ _ _ _ _ _ _ _ _ _ _ _ _ _ _ _ _ _ _ _ _ _ _ _ _)
      | (with_reducible exact LeO.refl _)
      | (with_reducible exact LeO.none _)
      | (with_reducible refine LeO.ite ?_ ?_)
      | (with_reducible refine LeO.bind ?_ (fun _ => ?_))
      | exact ih0 _ _ _
      | exact incognitoref12_One.mono _ _ _ _ _ _ _ _ _ _ _ _ _ _ _ _ _ _ _ _ _ _ _ _ _
      | exact LeO.none _
      | refine LeO.ite ?_ ?_
      | refine LeO.bind ?_ (fun _ => ?_)
theorem incognitoref12_Same.mono : ∀ a0 a1 k, LeO (incognitoref12_Same.f k a0 a1) (incognitoref12_Same.f (k + 1) a0 a1) := by
  intro a0 a1 k
  have ih0 := incognitoref12_Same.mono_l k
  unfold incognitoref12_Same.f
  repeat' first
      | (with_reducible exact ih0 _ _ _)
      | (with_reducible exact incognitoref12_One.mono _ _ _ _ _ _ _ _ _ _ _ _ _ _ _ _ _ _ _ _ _ _ _ _ _)
      | (with_reducible exact LeO.refl _)
      | (with_reducible exact LeO.none _)
      | (with_reducible refine LeO.ite ?_ ?_)
      | (with_reducible refine LeO.bind ?_ (fun _ => ?_))
      | exact ih0 _ _ _
      | exact incognitoref12_One.mono _ _ _ _ _ _ _ _ _ _ _ _ _ _ _ _ _ _ _ _ _ _ _ _ _
      | exact LeO.none _
      | refine LeO.ite ?_ ?_
      | refine LeO.bind ?_ (fun _ => ?_)
def incognitoref12_Same.T6 : Bool × List (List Nat × List Nat) := (true, [([], []), ([], []), ([0, 1], [0, 1]), ([2], [2]), ([], []), ([], []), ([4, 5], [4, 5]), ([6], [6]), ([3, 7], [3, 7]), ([8], [8])])
def incognitoref12_Same.B6 : List Nat := [0, 0, 3, 7, 0, 0, 48, 112, 255, 511]
theorem incognitoref12_Same.tab6 : rtab .any (opsOf Try.f6 6) = incognitoref12_Same.T6 := by kernel_rfl
theorem incognitoref12_Same.bits6 : waitsOk incognitoref12_Same.T6.2 incognitoref12_Same.B6 = true := by kernel_rfl
set_option maxHeartbeats 8000000 in
set_option maxRecDepth 100000 in
theorem incognitoref12_Same.calls (k : Nat) (A0 : Option Addr) (c0 : Nat) (l0 : List (S32)) (A1 : Option Addr) (c1 : Nat) (l1 : List (S32)) (r : Bool) (w : World) (hr0 : Kd.C k32 w A0 l0.length l0) (hc0 : l0.length ≤ c0) (hr1 : Kd.C k32 w A1 l1.length l1) (hc1 : l1.length ≤ c1) (h : incognitoref12_Same.f k l0 l1 = some r) :
    Calls Try.prog 6 #[.slice A0 l0.length c0, .slice A1 l1.length c1] w fun e w' => e = .returned (.bool r) ∧ Below w.heap.size w w' := by
  have hu32 := Try.underlying32
  have HR0 := Aside0.mk hr0
  have HC0 := Aside0.mk hc0
  clear hr0 hc0
  have HR1 := Aside0.mk hr1
  have HC1 := Aside0.mk hc1
  clear hr1 hc1
  have HB := Aside0.mk (Below.refl w.heap.size w)
  have H : (if (l0.length : Int) = (l1.length : Int) then (incognitoref12_Same.l0 k l0 l1 0) else (some false)) = some r := h
  clear h
  by_cases c3 : (l0.length : Int) = (l1.length : Int)
  · rw [if_pos c3] at H
    have c3b0 : ((l0.length : Int) == (l1.length : Int)) = true := beq_iff_eq.mpr c3
    have c3b1 : ((l0.length : Int) != (l1.length : Int)) = false := bne_eq_false_iff_eq.mpr c3
    have c3b2 : (l0.length == l1.length) = true := by first | simpa using c3 | (simp at c3 ⊢; omega)
    clear c3
    have H' := Aside0.mk H
    clear H
    go_enter Try.func6, Try.ntmps6
    go_wp2
    go_loopg [5] k (fun kq v5 w' => ∃ (x5_1 : Int), v5 = .int .i64 x5_1 ∧ Aside0 (incognitoref12_Same.l0 kq l0 l1 x5_1 = some r) ∧ Aside0 (kq ≤ k) ∧ Aside0 (Below w.heap.size w w'))
    case atStart => exact ⟨(0), (by first | rfl | (simp; done) | (simp [*]; done)), H', ⟨Nat.le_refl _⟩, ⟨by repeat (first | (with_reducible first | exact HB.out | apply below_alloc | apply pw_below_drewN | apply below_drew1) | exact HB.out)⟩⟩
    case round =>
      clear H'
      try clear c1
      try clear p2
      try clear c3
      try clear c3b0
      try clear c3b1
      try clear c3b2
      obtain ⟨x5_1, rfl, HA, HK1, HB⟩ := hrel
      cases gk with
      | zero => exact absurd HA.out (by simp [incognitoref12_Same.l0])
      | succ k1 =>
        have H := HA.out
        clear HA
        simp only [incognitoref12_Same.l0] at H
        by_cases c4 : x5_1 < (l0.length : Int)
        · rw [if_pos c4] at H
          have c4b0 : decide (x5_1 < (l0.length : Int)) = true := decide_eq_true c4
          clear c4
          by_cases c5 : 0 ≤ x5_1
          · rw [if_pos c5] at H
            have c5b0 : decide (0 ≤ x5_1) = true := decide_eq_true c5
            clear c5
            by_cases c6 : x5_1 < (l1.length : Int)
            · rw [if_pos c6] at H
              have c6b0 : decide (x5_1 < (l1.length : Int)) = true := decide_eq_true c6
              clear c6
              replace H := Option.bind_eq_some_iff.mp H
              obtain ⟨t146, A70, H⟩ := H
              replace H : (if t146 = true then (incognitoref12_Same.l0 k1 l0 l1 (wrap64 (x5_1 + 1))) else (some false)) = some r := H
              have A7 := Aside0.mk A70
              clear A70
              by_cases c8 : t146 = true
              · subst c8
                have H1 : (incognitoref12_Same.l0 k1 l0 l1 (wrap64 (x5_1 + 1))) = some r := by rw [if_pos rfl] at H; exact H
                clear H
                have H := H1
                clear H1
                have H' := Aside0.mk H
                clear H
                try go_wp2
                have n0_ := Aside0.mk (below_drew1 HB.out)
                clear HB
                have HB := n0_
                clear n0_
                have p144 : 0 ≤ (x5_1 : Int) := of_decide_eq_true (by first | (with_reducible assumption) | assumption)
                have q144 : x5_1 < (l0.length : Int) := of_decide_eq_true (by first | (with_reducible assumption) | assumption)
                obtain ⟨ad144, A144_8, c144_8, A144_9, c144_9, e144, hx144_0, hx144_1, hx144_2, hx144_3, hx144_4, hx144_5, hx144_6, hx144_7, hx144_8, hx144_9, hx144_10, hx144_11, hl144_8, hi144_8, hl144_9, hi144_9⟩ := at_T32 HR0.out x5_1 p144 q144
                have hw144_11 := hx144_11
                have hw144_10 := hx144_10
                have hw144_9 := hx144_9
                have hw144_8 := hx144_8
                have hw144_7 := hx144_7
                have hw144_6 := hx144_6
                have hw144_5 := hx144_5
                have hw144_4 := hx144_4
                have hw144_3 := hx144_3
                have hw144_2 := hx144_2
                have hw144_1 := hx144_1
                have hw144_0 := hx144_0
                cases e144
                replace hx144_0 := (HB.out.cell (World.block_lt_of_cell? w _ hx144_0)).trans hx144_0
                replace hx144_1 := (HB.out.cell (World.block_lt_of_cell? w _ hx144_1)).trans hx144_1
                replace hx144_2 := (HB.out.cell (World.block_lt_of_cell? w _ hx144_2)).trans hx144_2
                replace hx144_3 := (HB.out.cell (World.block_lt_of_cell? w _ hx144_3)).trans hx144_3
                replace hx144_4 := (HB.out.cell (World.block_lt_of_cell? w _ hx144_4)).trans hx144_4
                replace hx144_5 := (HB.out.cell (World.block_lt_of_cell? w _ hx144_5)).trans hx144_5
                replace hx144_6 := (HB.out.cell (World.block_lt_of_cell? w _ hx144_6)).trans hx144_6
                replace hx144_7 := (HB.out.cell (World.block_lt_of_cell? w _ hx144_7)).trans hx144_7
                replace hx144_8 := (HB.out.cell (World.block_lt_of_cell? w _ hx144_8)).trans hx144_8
                replace hx144_9 := (HB.out.cell (World.block_lt_of_cell? w _ hx144_9)).trans hx144_9
                replace hx144_10 := (HB.out.cell (World.block_lt_of_cell? w _ hx144_10)).trans hx144_10
                replace hx144_11 := (HB.out.cell (World.block_lt_of_cell? w _ hx144_11)).trans hx144_11
                have HR144_8 := Aside0.mk hi144_8
                have HC144_8 := Aside0.mk hl144_8
                clear hi144_8 hl144_8
                have HR144_9 := Aside0.mk hi144_9
                have HC144_9 := Aside0.mk hl144_9
                clear hi144_9 hl144_9
                replace p144 := eq_true p144
                replace q144 := eq_true q144
                have p145 : 0 ≤ (x5_1 : Int) := of_decide_eq_true (by first | (with_reducible assumption) | assumption)
                have q145 : x5_1 < (l1.length : Int) := of_decide_eq_true (by first | (with_reducible assumption) | assumption)
                obtain ⟨ad145, A145_8, c145_8, A145_9, c145_9, e145, hx145_0, hx145_1, hx145_2, hx145_3, hx145_4, hx145_5, hx145_6, hx145_7, hx145_8, hx145_9, hx145_10, hx145_11, hl145_8, hi145_8, hl145_9, hi145_9⟩ := at_T32 HR1.out x5_1 p145 q145
                have hw145_11 := hx145_11
                have hw145_10 := hx145_10
                have hw145_9 := hx145_9
                have hw145_8 := hx145_8
                have hw145_7 := hx145_7
                have hw145_6 := hx145_6
                have hw145_5 := hx145_5
                have hw145_4 := hx145_4
                have hw145_3 := hx145_3
                have hw145_2 := hx145_2
                have hw145_1 := hx145_1
                have hw145_0 := hx145_0
                cases e145
                replace hx145_0 := (HB.out.cell (World.block_lt_of_cell? w _ hx145_0)).trans hx145_0
                replace hx145_1 := (HB.out.cell (World.block_lt_of_cell? w _ hx145_1)).trans hx145_1
                replace hx145_2 := (HB.out.cell (World.block_lt_of_cell? w _ hx145_2)).trans hx145_2
                replace hx145_3 := (HB.out.cell (World.block_lt_of_cell? w _ hx145_3)).trans hx145_3
                replace hx145_4 := (HB.out.cell (World.block_lt_of_cell? w _ hx145_4)).trans hx145_4
                replace hx145_5 := (HB.out.cell (World.block_lt_of_cell? w _ hx145_5)).trans hx145_5
                replace hx145_6 := (HB.out.cell (World.block_lt_of_cell? w _ hx145_6)).trans hx145_6
                replace hx145_7 := (HB.out.cell (World.block_lt_of_cell? w _ hx145_7)).trans hx145_7
                replace hx145_8 := (HB.out.cell (World.block_lt_of_cell? w _ hx145_8)).trans hx145_8
                replace hx145_9 := (HB.out.cell (World.block_lt_of_cell? w _ hx145_9)).trans hx145_9
                replace hx145_10 := (HB.out.cell (World.block_lt_of_cell? w _ hx145_10)).trans hx145_10
                replace hx145_11 := (HB.out.cell (World.block_lt_of_cell? w _ hx145_11)).trans hx145_11
                have HR145_8 := Aside0.mk hi145_8
                have HC145_8 := Aside0.mk hl145_8
                clear hi145_8 hl145_8
                have HR145_9 := Aside0.mk hi145_9
                have HC145_9 := Aside0.mk hl145_9
                clear hi145_9 hl145_9
                replace p145 := eq_true p145
                replace q145 := eq_true q145
                refine start_ (n := 10) (S := fun w' => w'.cell? (ad144.add ((x5_1).toNat * 12)) = some (.int .i64 ((rd_T32 l0 x5_1).f0.f0)) ∧ w'.cell? ⟨(ad144.add ((x5_1).toNat * 12)).block, (ad144.add ((x5_1).toNat * 12)).off + 1, none⟩ = some (.int .i64 ((rd_T32 l0 x5_1).f0.f1)) ∧ w'.cell? ⟨(ad144.add ((x5_1).toNat * 12)).block, (ad144.add ((x5_1).toNat * 12)).off + 2, none⟩ = some (.string ((rd_T32 l0 x5_1).f0.f2)) ∧ w'.cell? ⟨(ad144.add ((x5_1).toNat * 12)).block, (ad144.add ((x5_1).toNat * 12)).off + 3, none⟩ = some (.int .i64 ((rd_T32 l0 x5_1).f1)) ∧ w'.cell? ⟨(ad144.add ((x5_1).toNat * 12)).block, (ad144.add ((x5_1).toNat * 12)).off + 4, none⟩ = some (.int .i64 ((rd_T32 l0 x5_1).f2.f0)) ∧ w'.cell? ⟨(ad144.add ((x5_1).toNat * 12)).block, (ad144.add ((x5_1).toNat * 12)).off + 5, none⟩ = some (.int .i64 ((rd_T32 l0 x5_1).f2.f1)) ∧ w'.cell? ⟨(ad144.add ((x5_1).toNat * 12)).block, (ad144.add ((x5_1).toNat * 12)).off + 6, none⟩ = some (.string ((rd_T32 l0 x5_1).f2.f2)) ∧ w'.cell? ⟨(ad144.add ((x5_1).toNat * 12)).block, (ad144.add ((x5_1).toNat * 12)).off + 7, none⟩ = some (.int .i64 ((rd_T32 l0 x5_1).f3)) ∧ w'.cell? ⟨(ad144.add ((x5_1).toNat * 12)).block, (ad144.add ((x5_1).toNat * 12)).off + 8, none⟩ = some (.slice A144_8 ((rd_T32 l0 x5_1).f4).length c144_8) ∧ w'.cell? ⟨(ad144.add ((x5_1).toNat * 12)).block, (ad144.add ((x5_1).toNat * 12)).off + 9, none⟩ = some (.slice A144_9 ((rd_T32 l0 x5_1).f5).length c144_9) ∧ w'.cell? ⟨(ad144.add ((x5_1).toNat * 12)).block, (ad144.add ((x5_1).toNat * 12)).off + 10, none⟩ = some (.int .i64 ((rd_T32 l0 x5_1).f6)) ∧ w'.cell? ⟨(ad144.add ((x5_1).toNat * 12)).block, (ad144.add ((x5_1).toNat * 12)).off + 11, none⟩ = some (.int .i64 ((rd_T32 l0 x5_1).f7)) ∧ w'.cell? (ad145.add ((x5_1).toNat * 12)) = some (.int .i64 ((rd_T32 l1 x5_1).f0.f0)) ∧ w'.cell? ⟨(ad145.add ((x5_1).toNat * 12)).block, (ad145.add ((x5_1).toNat * 12)).off + 1, none⟩ = some (.int .i64 ((rd_T32 l1 x5_1).f0.f1)) ∧ w'.cell? ⟨(ad145.add ((x5_1).toNat * 12)).block, (ad145.add ((x5_1).toNat * 12)).off + 2, none⟩ = some (.string ((rd_T32 l1 x5_1).f0.f2)) ∧ w'.cell? ⟨(ad145.add ((x5_1).toNat * 12)).block, (ad145.add ((x5_1).toNat * 12)).off + 3, none⟩ = some (.int .i64 ((rd_T32 l1 x5_1).f1)) ∧ w'.cell? ⟨(ad145.add ((x5_1).toNat * 12)).block, (ad145.add ((x5_1).toNat * 12)).off + 4, none⟩ = some (.int .i64 ((rd_T32 l1 x5_1).f2.f0)) ∧ w'.cell? ⟨(ad145.add ((x5_1).toNat * 12)).block, (ad145.add ((x5_1).toNat * 12)).off + 5, none⟩ = some (.int .i64 ((rd_T32 l1 x5_1).f2.f1)) ∧ w'.cell? ⟨(ad145.add ((x5_1).toNat * 12)).block, (ad145.add ((x5_1).toNat * 12)).off + 6, none⟩ = some (.string ((rd_T32 l1 x5_1).f2.f2)) ∧ w'.cell? ⟨(ad145.add ((x5_1).toNat * 12)).block, (ad145.add ((x5_1).toNat * 12)).off + 7, none⟩ = some (.int .i64 ((rd_T32 l1 x5_1).f3)) ∧ w'.cell? ⟨(ad145.add ((x5_1).toNat * 12)).block, (ad145.add ((x5_1).toNat * 12)).off + 8, none⟩ = some (.slice A145_8 ((rd_T32 l1 x5_1).f4).length c145_8) ∧ w'.cell? ⟨(ad145.add ((x5_1).toNat * 12)).block, (ad145.add ((x5_1).toNat * 12)).off + 9, none⟩ = some (.slice A145_9 ((rd_T32 l1 x5_1).f5).length c145_9) ∧ w'.cell? ⟨(ad145.add ((x5_1).toNat * 12)).block, (ad145.add ((x5_1).toNat * 12)).off + 10, none⟩ = some (.int .i64 ((rd_T32 l1 x5_1).f6)) ∧ w'.cell? ⟨(ad145.add ((x5_1).toNat * 12)).block, (ad145.add ((x5_1).toNat * 12)).off + 11, none⟩ = some (.int .i64 ((rd_T32 l1 x5_1).f7))) (ds := []) #[false, false, false, false, false, false, false, false, false, false] (by kernel_rfl) rfl rfl ⟨((HB.out.cell (World.block_lt_of_cell? w _ hw144_0)).trans hw144_0), ((HB.out.cell (World.block_lt_of_cell? w _ hw144_1)).trans hw144_1), ((HB.out.cell (World.block_lt_of_cell? w _ hw144_2)).trans hw144_2), ((HB.out.cell (World.block_lt_of_cell? w _ hw144_3)).trans hw144_3), ((HB.out.cell (World.block_lt_of_cell? w _ hw144_4)).trans hw144_4), ((HB.out.cell (World.block_lt_of_cell? w _ hw144_5)).trans hw144_5), ((HB.out.cell (World.block_lt_of_cell? w _ hw144_6)).trans hw144_6), ((HB.out.cell (World.block_lt_of_cell? w _ hw144_7)).trans hw144_7), ((HB.out.cell (World.block_lt_of_cell? w _ hw144_8)).trans hw144_8), ((HB.out.cell (World.block_lt_of_cell? w _ hw144_9)).trans hw144_9), ((HB.out.cell (World.block_lt_of_cell? w _ hw144_10)).trans hw144_10), ((HB.out.cell (World.block_lt_of_cell? w _ hw144_11)).trans hw144_11), ((HB.out.cell (World.block_lt_of_cell? w _ hw145_0)).trans hw145_0), ((HB.out.cell (World.block_lt_of_cell? w _ hw145_1)).trans hw145_1), ((HB.out.cell (World.block_lt_of_cell? w _ hw145_2)).trans hw145_2), ((HB.out.cell (World.block_lt_of_cell? w _ hw145_3)).trans hw145_3), ((HB.out.cell (World.block_lt_of_cell? w _ hw145_4)).trans hw145_4), ((HB.out.cell (World.block_lt_of_cell? w _ hw145_5)).trans hw145_5), ((HB.out.cell (World.block_lt_of_cell? w _ hw145_6)).trans hw145_6), ((HB.out.cell (World.block_lt_of_cell? w _ hw145_7)).trans hw145_7), ((HB.out.cell (World.block_lt_of_cell? w _ hw145_8)).trans hw145_8), ((HB.out.cell (World.block_lt_of_cell? w _ hw145_9)).trans hw145_9), ((HB.out.cell (World.block_lt_of_cell? w _ hw145_10)).trans hw145_10), ((HB.out.cell (World.block_lt_of_cell? w _ hw145_11)).trans hw145_11)⟩ (fun hHeld => ?_); refine with_tabW incognitoref12_Same.tab6 incognitoref12_Same.bits6 (fun HT_ HW_ => ?_)
                generalize wr.drew = w9 at HB HR144_8 HR144_9 HR145_8 HR145_9 hx144_0 hx144_1 hx144_10 hx144_11 hx144_2 hx144_3 hx144_4 hx144_5 hx144_6 hx144_7 hx144_8 hx144_9 hx145_0 hx145_1 hx145_10 hx145_11 hx145_2 hx145_3 hx145_4 hx145_5 hx145_6 hx145_7 hx145_8 hx145_9 hHeld ⊢
                refine pure_ (i := 0) (N := some 17) (v := ?_) (a' := ?_) #[true, false, false, false, false, false, false, false, false, false] rfl rfl (any_of HT_.out (by kernel_rfl)) (fun _ _ _ h => h) (Or.inl ⟨by rfl, ?_⟩) ?_ ?_
                rotate_left
                · intro w'
                  go_simp
                  with_reducible rfl
                rotate_left
                · simp only [Act.put, List.setIfInBounds_toArray, List.set_cons_zero, List.set_cons_succ, i64_w, i32_w]
                  rfl
                refine pure_ (i := 1) (N := some 18) (v := ?_) (a' := ?_) #[true, true, false, false, false, false, false, false, false, false] rfl rfl (any_of HT_.out (by kernel_rfl)) (fun _ _ _ h => h) (Or.inl ⟨by rfl, ?_⟩) ?_ ?_
                rotate_left
                · intro w'
                  go_simp
                  with_reducible rfl
                rotate_left
                · simp only [Act.put, List.setIfInBounds_toArray, List.set_cons_zero, List.set_cons_succ, i64_w, i32_w]
                  rfl
                refine pure_ (i := 2) (N := some 19) (v := ?_) (a' := ?_) #[true, true, true, false, false, false, false, false, false, false] rfl rfl (any_of HT_.out (by kernel_rfl)) (fun _ _ _ h => h) (Or.inl ⟨by rfl, ?_⟩) ?_ ?_
                rotate_left
                · intro w'
                  go_simp
                  with_reducible rfl
                rotate_left
                · simp only [Act.put, List.setIfInBounds_toArray, List.set_cons_zero, List.set_cons_succ, i64_w, i32_w]
                  rfl
                refine pure_ (i := 4) (N := some 21) (v := ?_) (a' := ?_) #[true, true, true, false, true, false, false, false, false, false] rfl rfl (any_of HT_.out (by kernel_rfl)) (fun _ _ _ h => h) (Or.inl ⟨by rfl, ?_⟩) ?_ ?_
                rotate_left
                · intro w'
                  go_simp
                  with_reducible rfl
                rotate_left
                · simp only [Act.put, List.setIfInBounds_toArray, List.set_cons_zero, List.set_cons_succ, i64_w, i32_w]
                  rfl
                refine pure_ (i := 5) (N := some 22) (v := ?_) (a' := ?_) #[true, true, true, false, true, true, false, false, false, false] rfl rfl (any_of HT_.out (by kernel_rfl)) (fun _ _ _ h => h) (Or.inl ⟨by rfl, ?_⟩) ?_ ?_
                rotate_left
                · intro w'
                  go_simp
                  with_reducible rfl
                rotate_left
                · simp only [Act.put, List.setIfInBounds_toArray, List.set_cons_zero, List.set_cons_succ, i64_w, i32_w]
                  rfl
                refine pure_ (i := 6) (N := some 23) (v := ?_) (a' := ?_) #[true, true, true, false, true, true, true, false, false, false] rfl rfl (any_of HT_.out (by kernel_rfl)) (fun _ _ _ h => h) (Or.inl ⟨by rfl, ?_⟩) ?_ ?_
                rotate_left
                · intro w'
                  go_simp
                  with_reducible rfl
                rotate_left
                · simp only [Act.put, List.setIfInBounds_toArray, List.set_cons_zero, List.set_cons_succ, i64_w, i32_w]
                  rfl
                refine take_ (i := 3) (N := some 20) (v := ?_) (a' := ?_) #[true, true, true, true, true, true, true, false, false, false] rfl rfl (take_ofW HT_.out HW_.out (by kernel_rfl)) (fun _ _ _ h => h) (Or.inl ⟨by rfl, ?_⟩) hHeld ?_ ?_
                rotate_left
                · rintro w' ⟨s0, s1, s2, s3, s4, s5, s6, s7, s8, s9, s10, s11, s12, s13, s14, s15, s16, s17, s18, s19, s20, s21, s22, s23⟩
                  go_simp
                  with_reducible rfl
                rotate_left
                · simp only [Act.put, List.setIfInBounds_toArray, List.set_cons_zero, List.set_cons_succ, i64_w, i32_w]
                  rfl
                refine take_ (i := 7) (N := some 24) (v := ?_) (a' := ?_) #[true, true, true, true, true, true, true, true, false, false] rfl rfl (take_ofW HT_.out HW_.out (by kernel_rfl)) (fun _ _ _ h => h) (Or.inl ⟨by rfl, ?_⟩) hHeld ?_ ?_
                rotate_left
                · rintro w' ⟨s0, s1, s2, s3, s4, s5, s6, s7, s8, s9, s10, s11, s12, s13, s14, s15, s16, s17, s18, s19, s20, s21, s22, s23⟩
                  go_simp
                  with_reducible rfl
                rotate_left
                · simp only [Act.put, List.setIfInBounds_toArray, List.set_cons_zero, List.set_cons_succ, i64_w, i32_w]
                  rfl
                refine one_ (i := 8) (N := some 25) #[true, true, true, true, true, true, true, true, true, false] rfl rfl (one_of HT_.out (by kernel_rfl)) (by decide) (fun K hK => ?_)
                refine goes_ Try.func11 (by kernel_rfl) rfl #[.agg #[.int .i64 ((rd_T32 l0 x5_1).f0.f0), .int .i64 ((rd_T32 l0 x5_1).f0.f1), .string ((rd_T32 l0 x5_1).f0.f2), .int .i64 ((rd_T32 l0 x5_1).f1), .int .i64 ((rd_T32 l0 x5_1).f2.f0), .int .i64 ((rd_T32 l0 x5_1).f2.f1), .string ((rd_T32 l0 x5_1).f2.f2), .int .i64 ((rd_T32 l0 x5_1).f3), .slice A144_8 ((rd_T32 l0 x5_1).f4).length c144_8, .slice A144_9 ((rd_T32 l0 x5_1).f5).length c144_9, .int .i64 ((rd_T32 l0 x5_1).f6), .int .i64 ((rd_T32 l0 x5_1).f7)], .agg #[.int .i64 ((rd_T32 l1 x5_1).f0.f0), .int .i64 ((rd_T32 l1 x5_1).f0.f1), .string ((rd_T32 l1 x5_1).f0.f2), .int .i64 ((rd_T32 l1 x5_1).f1), .int .i64 ((rd_T32 l1 x5_1).f2.f0), .int .i64 ((rd_T32 l1 x5_1).f2.f1), .string ((rd_T32 l1 x5_1).f2.f2), .int .i64 ((rd_T32 l1 x5_1).f3), .slice A145_8 ((rd_T32 l1 x5_1).f4).length c145_8, .slice A145_9 ((rd_T32 l1 x5_1).f5).length c145_9, .int .i64 ((rd_T32 l1 x5_1).f6), .int .i64 ((rd_T32 l1 x5_1).f7)]] (by rfl) rfl rfl (by (try simp only [List.map_toArray, List.map_cons, List.map_nil]); first | done | rfl | (simp only [List.length_drop, List.length_take]; rfl)) ?_
                with_reducible refine (incognitoref12_One.calls k1 ((rd_T32 l0 x5_1).f0.f0) ((rd_T32 l0 x5_1).f0.f1) ((rd_T32 l0 x5_1).f0.f2) ((rd_T32 l0 x5_1).f1) ((rd_T32 l0 x5_1).f2.f0) ((rd_T32 l0 x5_1).f2.f1) ((rd_T32 l0 x5_1).f2.f2) ((rd_T32 l0 x5_1).f3) _ _ ((rd_T32 l0 x5_1).f4) _ _ ((rd_T32 l0 x5_1).f5) ((rd_T32 l0 x5_1).f6) ((rd_T32 l0 x5_1).f7) ((rd_T32 l1 x5_1).f0.f0) ((rd_T32 l1 x5_1).f0.f1) ((rd_T32 l1 x5_1).f0.f2) ((rd_T32 l1 x5_1).f1) ((rd_T32 l1 x5_1).f2.f0) ((rd_T32 l1 x5_1).f2.f1) ((rd_T32 l1 x5_1).f2.f2) ((rd_T32 l1 x5_1).f3) _ _ ((rd_T32 l1 x5_1).f4) _ _ ((rd_T32 l1 x5_1).f5) ((rd_T32 l1 x5_1).f6) ((rd_T32 l1 x5_1).f7) true _ ?side1 ?side2 ?side3 ?side4 ?side5 ?side6 ?side7 ?side8 A7.out).mono ?_
                (case side1 => repeat (first | exact (Kd.C_below HR144_8.out HB.out) | (with_reducible refine Kd.C_alloc ?_ _) | (with_reducible refine Kd.C_drewN ?_ _) | (with_reducible refine Kd.C_drew ?_)))
                (case side2 => exact HC144_8.out)
                (case side3 => repeat (first | exact (Kd.C_below HR144_9.out HB.out) | (with_reducible refine Kd.C_alloc ?_ _) | (with_reducible refine Kd.C_drewN ?_ _) | (with_reducible refine Kd.C_drew ?_)))
                (case side4 => exact HC144_9.out)
                (case side5 => repeat (first | exact (Kd.C_below HR145_8.out HB.out) | (with_reducible refine Kd.C_alloc ?_ _) | (with_reducible refine Kd.C_drewN ?_ _) | (with_reducible refine Kd.C_drew ?_)))
                (case side6 => exact HC145_8.out)
                (case side7 => repeat (first | exact (Kd.C_below HR145_9.out HB.out) | (with_reducible refine Kd.C_alloc ?_ _) | (with_reducible refine Kd.C_drewN ?_ _) | (with_reducible refine Kd.C_drew ?_)))
                (case side8 => exact HC145_9.out)
                rintro e w10 ⟨rfl, hb⟩
                refine ⟨_, rfl, ?_⟩
                have n0_ := Aside0.mk (below_step (by repeat (first | (with_reducible first | exact HB.out | apply below_alloc | apply pw_below_drewN | apply below_drew1) | exact HB.out)) hb)
                clear HB
                have HB := n0_
                clear n0_
                (try clear hb)
                (try clear hb2)
                (try clear hk)
                (try clear hi)
                refine hK.out _ _ ⟨((HB.out.cell (World.block_lt_of_cell? w _ hw144_0)).trans hw144_0), ((HB.out.cell (World.block_lt_of_cell? w _ hw144_1)).trans hw144_1), ((HB.out.cell (World.block_lt_of_cell? w _ hw144_2)).trans hw144_2), ((HB.out.cell (World.block_lt_of_cell? w _ hw144_3)).trans hw144_3), ((HB.out.cell (World.block_lt_of_cell? w _ hw144_4)).trans hw144_4), ((HB.out.cell (World.block_lt_of_cell? w _ hw144_5)).trans hw144_5), ((HB.out.cell (World.block_lt_of_cell? w _ hw144_6)).trans hw144_6), ((HB.out.cell (World.block_lt_of_cell? w _ hw144_7)).trans hw144_7), ((HB.out.cell (World.block_lt_of_cell? w _ hw144_8)).trans hw144_8), ((HB.out.cell (World.block_lt_of_cell? w _ hw144_9)).trans hw144_9), ((HB.out.cell (World.block_lt_of_cell? w _ hw144_10)).trans hw144_10), ((HB.out.cell (World.block_lt_of_cell? w _ hw144_11)).trans hw144_11), ((HB.out.cell (World.block_lt_of_cell? w _ hw145_0)).trans hw145_0), ((HB.out.cell (World.block_lt_of_cell? w _ hw145_1)).trans hw145_1), ((HB.out.cell (World.block_lt_of_cell? w _ hw145_2)).trans hw145_2), ((HB.out.cell (World.block_lt_of_cell? w _ hw145_3)).trans hw145_3), ((HB.out.cell (World.block_lt_of_cell? w _ hw145_4)).trans hw145_4), ((HB.out.cell (World.block_lt_of_cell? w _ hw145_5)).trans hw145_5), ((HB.out.cell (World.block_lt_of_cell? w _ hw145_6)).trans hw145_6), ((HB.out.cell (World.block_lt_of_cell? w _ hw145_7)).trans hw145_7), ((HB.out.cell (World.block_lt_of_cell? w _ hw145_8)).trans hw145_8), ((HB.out.cell (World.block_lt_of_cell? w _ hw145_9)).trans hw145_9), ((HB.out.cell (World.block_lt_of_cell? w _ hw145_10)).trans hw145_10), ((HB.out.cell (World.block_lt_of_cell? w _ hw145_11)).trans hw145_11)⟩ (fun hHeld => ?_)
                clear hK K
                refine norm_ (a' := ?_) ?_ ?_
                rotate_left
                · show Act.put _ (some 25) _ = _
                  simp only [Act.put, List.setIfInBounds_toArray, List.set_cons_zero, List.set_cons_succ, i64_w, i32_w]
                  rfl
                refine pure_ (i := 9) (N := some 26) (v := ?_) (a' := ?_) #[true, true, true, true, true, true, true, true, true, true] rfl rfl (any_of HT_.out (by kernel_rfl)) (fun _ _ _ h => h) (Or.inl ⟨by rfl, ?_⟩) ?_ ?_
                rotate_left
                · intro w'
                  go_simp
                  with_reducible rfl
                rotate_left
                · simp only [Act.put, List.setIfInBounds_toArray, List.set_cons_zero, List.set_cons_succ, i64_w, i32_w]
                  rfl
                refine done_ (done_of HT_.out (by kernel_rfl)) ?_
                try go_wp2
                go_roundg k1
                case measure => have := HK1.out; omega
                case rel => exact ⟨(wrap64 (x5_1 + 1)), (by first | rfl | (simp; done) | (simp [*]; done)), H', ⟨by have := HK1.out; omega⟩, ⟨by repeat (first | (with_reducible first | exact HB.out | apply below_alloc | apply pw_below_drewN | apply below_drew1) | exact HB.out)⟩⟩
              · replace c8 := Bool.eq_false_iff.mpr c8
                subst c8
                have H1 : (some false) = some r := by rw [if_neg (show ¬ (false = true) by decide)] at H; exact H
                clear H
                have H := H1
                clear H1
                obtain rfl := Option.some.inj H
                try go_wp2
                have n0_ := Aside0.mk (below_drew1 HB.out)
                clear HB
                have HB := n0_
                clear n0_
                have p144 : 0 ≤ (x5_1 : Int) := of_decide_eq_true (by first | (with_reducible assumption) | assumption)
                have q144 : x5_1 < (l0.length : Int) := of_decide_eq_true (by first | (with_reducible assumption) | assumption)
                obtain ⟨ad144, A144_8, c144_8, A144_9, c144_9, e144, hx144_0, hx144_1, hx144_2, hx144_3, hx144_4, hx144_5, hx144_6, hx144_7, hx144_8, hx144_9, hx144_10, hx144_11, hl144_8, hi144_8, hl144_9, hi144_9⟩ := at_T32 HR0.out x5_1 p144 q144
                have hw144_11 := hx144_11
                have hw144_10 := hx144_10
                have hw144_9 := hx144_9
                have hw144_8 := hx144_8
                have hw144_7 := hx144_7
                have hw144_6 := hx144_6
                have hw144_5 := hx144_5
                have hw144_4 := hx144_4
                have hw144_3 := hx144_3
                have hw144_2 := hx144_2
                have hw144_1 := hx144_1
                have hw144_0 := hx144_0
                cases e144
                replace hx144_0 := (HB.out.cell (World.block_lt_of_cell? w _ hx144_0)).trans hx144_0
                replace hx144_1 := (HB.out.cell (World.block_lt_of_cell? w _ hx144_1)).trans hx144_1
                replace hx144_2 := (HB.out.cell (World.block_lt_of_cell? w _ hx144_2)).trans hx144_2
                replace hx144_3 := (HB.out.cell (World.block_lt_of_cell? w _ hx144_3)).trans hx144_3
                replace hx144_4 := (HB.out.cell (World.block_lt_of_cell? w _ hx144_4)).trans hx144_4
                replace hx144_5 := (HB.out.cell (World.block_lt_of_cell? w _ hx144_5)).trans hx144_5
                replace hx144_6 := (HB.out.cell (World.block_lt_of_cell? w _ hx144_6)).trans hx144_6
                replace hx144_7 := (HB.out.cell (World.block_lt_of_cell? w _ hx144_7)).trans hx144_7
                replace hx144_8 := (HB.out.cell (World.block_lt_of_cell? w _ hx144_8)).trans hx144_8
                replace hx144_9 := (HB.out.cell (World.block_lt_of_cell? w _ hx144_9)).trans hx144_9
                replace hx144_10 := (HB.out.cell (World.block_lt_of_cell? w _ hx144_10)).trans hx144_10
                replace hx144_11 := (HB.out.cell (World.block_lt_of_cell? w _ hx144_11)).trans hx144_11
                have HR144_8 := Aside0.mk hi144_8
                have HC144_8 := Aside0.mk hl144_8
                clear hi144_8 hl144_8
                have HR144_9 := Aside0.mk hi144_9
                have HC144_9 := Aside0.mk hl144_9
                clear hi144_9 hl144_9
                replace p144 := eq_true p144
                replace q144 := eq_true q144
                have p145 : 0 ≤ (x5_1 : Int) := of_decide_eq_true (by first | (with_reducible assumption) | assumption)
                have q145 : x5_1 < (l1.length : Int) := of_decide_eq_true (by first | (with_reducible assumption) | assumption)
                obtain ⟨ad145, A145_8, c145_8, A145_9, c145_9, e145, hx145_0, hx145_1, hx145_2, hx145_3, hx145_4, hx145_5, hx145_6, hx145_7, hx145_8, hx145_9, hx145_10, hx145_11, hl145_8, hi145_8, hl145_9, hi145_9⟩ := at_T32 HR1.out x5_1 p145 q145
                have hw145_11 := hx145_11
                have hw145_10 := hx145_10
                have hw145_9 := hx145_9
                have hw145_8 := hx145_8
                have hw145_7 := hx145_7
                have hw145_6 := hx145_6
                have hw145_5 := hx145_5
                have hw145_4 := hx145_4
                have hw145_3 := hx145_3
                have hw145_2 := hx145_2
                have hw145_1 := hx145_1
                have hw145_0 := hx145_0
                cases e145
                replace hx145_0 := (HB.out.cell (World.block_lt_of_cell? w _ hx145_0)).trans hx145_0
                replace hx145_1 := (HB.out.cell (World.block_lt_of_cell? w _ hx145_1)).trans hx145_1
                replace hx145_2 := (HB.out.cell (World.block_lt_of_cell? w _ hx145_2)).trans hx145_2
                replace hx145_3 := (HB.out.cell (World.block_lt_of_cell? w _ hx145_3)).trans hx145_3
                replace hx145_4 := (HB.out.cell (World.block_lt_of_cell? w _ hx145_4)).trans hx145_4
                replace hx145_5 := (HB.out.cell (World.block_lt_of_cell? w _ hx145_5)).trans hx145_5
                replace hx145_6 := (HB.out.cell (World.block_lt_of_cell? w _ hx145_6)).trans hx145_6
                replace hx145_7 := (HB.out.cell (World.block_lt_of_cell? w _ hx145_7)).trans hx145_7
                replace hx145_8 := (HB.out.cell (World.block_lt_of_cell? w _ hx145_8)).trans hx145_8
                replace hx145_9 := (HB.out.cell (World.block_lt_of_cell? w _ hx145_9)).trans hx145_9
                replace hx145_10 := (HB.out.cell (World.block_lt_of_cell? w _ hx145_10)).trans hx145_10
                replace hx145_11 := (HB.out.cell (World.block_lt_of_cell? w _ hx145_11)).trans hx145_11
                have HR145_8 := Aside0.mk hi145_8
                have HC145_8 := Aside0.mk hl145_8
                clear hi145_8 hl145_8
                have HR145_9 := Aside0.mk hi145_9
                have HC145_9 := Aside0.mk hl145_9
                clear hi145_9 hl145_9
                replace p145 := eq_true p145
                replace q145 := eq_true q145
                refine start_ (n := 10) (S := fun w' => w'.cell? (ad144.add ((x5_1).toNat * 12)) = some (.int .i64 ((rd_T32 l0 x5_1).f0.f0)) ∧ w'.cell? ⟨(ad144.add ((x5_1).toNat * 12)).block, (ad144.add ((x5_1).toNat * 12)).off + 1, none⟩ = some (.int .i64 ((rd_T32 l0 x5_1).f0.f1)) ∧ w'.cell? ⟨(ad144.add ((x5_1).toNat * 12)).block, (ad144.add ((x5_1).toNat * 12)).off + 2, none⟩ = some (.string ((rd_T32 l0 x5_1).f0.f2)) ∧ w'.cell? ⟨(ad144.add ((x5_1).toNat * 12)).block, (ad144.add ((x5_1).toNat * 12)).off + 3, none⟩ = some (.int .i64 ((rd_T32 l0 x5_1).f1)) ∧ w'.cell? ⟨(ad144.add ((x5_1).toNat * 12)).block, (ad144.add ((x5_1).toNat * 12)).off + 4, none⟩ = some (.int .i64 ((rd_T32 l0 x5_1).f2.f0)) ∧ w'.cell? ⟨(ad144.add ((x5_1).toNat * 12)).block, (ad144.add ((x5_1).toNat * 12)).off + 5, none⟩ = some (.int .i64 ((rd_T32 l0 x5_1).f2.f1)) ∧ w'.cell? ⟨(ad144.add ((x5_1).toNat * 12)).block, (ad144.add ((x5_1).toNat * 12)).off + 6, none⟩ = some (.string ((rd_T32 l0 x5_1).f2.f2)) ∧ w'.cell? ⟨(ad144.add ((x5_1).toNat * 12)).block, (ad144.add ((x5_1).toNat * 12)).off + 7, none⟩ = some (.int .i64 ((rd_T32 l0 x5_1).f3)) ∧ w'.cell? ⟨(ad144.add ((x5_1).toNat * 12)).block, (ad144.add ((x5_1).toNat * 12)).off + 8, none⟩ = some (.slice A144_8 ((rd_T32 l0 x5_1).f4).length c144_8) ∧ w'.cell? ⟨(ad144.add ((x5_1).toNat * 12)).block, (ad144.add ((x5_1).toNat * 12)).off + 9, none⟩ = some (.slice A144_9 ((rd_T32 l0 x5_1).f5).length c144_9) ∧ w'.cell? ⟨(ad144.add ((x5_1).toNat * 12)).block, (ad144.add ((x5_1).toNat * 12)).off + 10, none⟩ = some (.int .i64 ((rd_T32 l0 x5_1).f6)) ∧ w'.cell? ⟨(ad144.add ((x5_1).toNat * 12)).block, (ad144.add ((x5_1).toNat * 12)).off + 11, none⟩ = some (.int .i64 ((rd_T32 l0 x5_1).f7)) ∧ w'.cell? (ad145.add ((x5_1).toNat * 12)) = some (.int .i64 ((rd_T32 l1 x5_1).f0.f0)) ∧ w'.cell? ⟨(ad145.add ((x5_1).toNat * 12)).block, (ad145.add ((x5_1).toNat * 12)).off + 1, none⟩ = some (.int .i64 ((rd_T32 l1 x5_1).f0.f1)) ∧ w'.cell? ⟨(ad145.add ((x5_1).toNat * 12)).block, (ad145.add ((x5_1).toNat * 12)).off + 2, none⟩ = some (.string ((rd_T32 l1 x5_1).f0.f2)) ∧ w'.cell? ⟨(ad145.add ((x5_1).toNat * 12)).block, (ad145.add ((x5_1).toNat * 12)).off + 3, none⟩ = some (.int .i64 ((rd_T32 l1 x5_1).f1)) ∧ w'.cell? ⟨(ad145.add ((x5_1).toNat * 12)).block, (ad145.add ((x5_1).toNat * 12)).off + 4, none⟩ = some (.int .i64 ((rd_T32 l1 x5_1).f2.f0)) ∧ w'.cell? ⟨(ad145.add ((x5_1).toNat * 12)).block, (ad145.add ((x5_1).toNat * 12)).off + 5, none⟩ = some (.int .i64 ((rd_T32 l1 x5_1).f2.f1)) ∧ w'.cell? ⟨(ad145.add ((x5_1).toNat * 12)).block, (ad145.add ((x5_1).toNat * 12)).off + 6, none⟩ = some (.string ((rd_T32 l1 x5_1).f2.f2)) ∧ w'.cell? ⟨(ad145.add ((x5_1).toNat * 12)).block, (ad145.add ((x5_1).toNat * 12)).off + 7, none⟩ = some (.int .i64 ((rd_T32 l1 x5_1).f3)) ∧ w'.cell? ⟨(ad145.add ((x5_1).toNat * 12)).block, (ad145.add ((x5_1).toNat * 12)).off + 8, none⟩ = some (.slice A145_8 ((rd_T32 l1 x5_1).f4).length c145_8) ∧ w'.cell? ⟨(ad145.add ((x5_1).toNat * 12)).block, (ad145.add ((x5_1).toNat * 12)).off + 9, none⟩ = some (.slice A145_9 ((rd_T32 l1 x5_1).f5).length c145_9) ∧ w'.cell? ⟨(ad145.add ((x5_1).toNat * 12)).block, (ad145.add ((x5_1).toNat * 12)).off + 10, none⟩ = some (.int .i64 ((rd_T32 l1 x5_1).f6)) ∧ w'.cell? ⟨(ad145.add ((x5_1).toNat * 12)).block, (ad145.add ((x5_1).toNat * 12)).off + 11, none⟩ = some (.int .i64 ((rd_T32 l1 x5_1).f7))) (ds := []) #[false, false, false, false, false, false, false, false, false, false] (by kernel_rfl) rfl rfl ⟨((HB.out.cell (World.block_lt_of_cell? w _ hw144_0)).trans hw144_0), ((HB.out.cell (World.block_lt_of_cell? w _ hw144_1)).trans hw144_1), ((HB.out.cell (World.block_lt_of_cell? w _ hw144_2)).trans hw144_2), ((HB.out.cell (World.block_lt_of_cell? w _ hw144_3)).trans hw144_3), ((HB.out.cell (World.block_lt_of_cell? w _ hw144_4)).trans hw144_4), ((HB.out.cell (World.block_lt_of_cell? w _ hw144_5)).trans hw144_5), ((HB.out.cell (World.block_lt_of_cell? w _ hw144_6)).trans hw144_6), ((HB.out.cell (World.block_lt_of_cell? w _ hw144_7)).trans hw144_7), ((HB.out.cell (World.block_lt_of_cell? w _ hw144_8)).trans hw144_8), ((HB.out.cell (World.block_lt_of_cell? w _ hw144_9)).trans hw144_9), ((HB.out.cell (World.block_lt_of_cell? w _ hw144_10)).trans hw144_10), ((HB.out.cell (World.block_lt_of_cell? w _ hw144_11)).trans hw144_11), ((HB.out.cell (World.block_lt_of_cell? w _ hw145_0)).trans hw145_0), ((HB.out.cell (World.block_lt_of_cell? w _ hw145_1)).trans hw145_1), ((HB.out.cell (World.block_lt_of_cell? w _ hw145_2)).trans hw145_2), ((HB.out.cell (World.block_lt_of_cell? w _ hw145_3)).trans hw145_3), ((HB.out.cell (World.block_lt_of_cell? w _ hw145_4)).trans hw145_4), ((HB.out.cell (World.block_lt_of_cell? w _ hw145_5)).trans hw145_5), ((HB.out.cell (World.block_lt_of_cell? w _ hw145_6)).trans hw145_6), ((HB.out.cell (World.block_lt_of_cell? w _ hw145_7)).trans hw145_7), ((HB.out.cell (World.block_lt_of_cell? w _ hw145_8)).trans hw145_8), ((HB.out.cell (World.block_lt_of_cell? w _ hw145_9)).trans hw145_9), ((HB.out.cell (World.block_lt_of_cell? w _ hw145_10)).trans hw145_10), ((HB.out.cell (World.block_lt_of_cell? w _ hw145_11)).trans hw145_11)⟩ (fun hHeld => ?_); refine with_tabW incognitoref12_Same.tab6 incognitoref12_Same.bits6 (fun HT_ HW_ => ?_)
                generalize wr.drew = w11 at HB HR144_8 HR144_9 HR145_8 HR145_9 hx144_0 hx144_1 hx144_10 hx144_11 hx144_2 hx144_3 hx144_4 hx144_5 hx144_6 hx144_7 hx144_8 hx144_9 hx145_0 hx145_1 hx145_10 hx145_11 hx145_2 hx145_3 hx145_4 hx145_5 hx145_6 hx145_7 hx145_8 hx145_9 hHeld ⊢
                refine pure_ (i := 0) (N := some 17) (v := ?_) (a' := ?_) #[true, false, false, false, false, false, false, false, false, false] rfl rfl (any_of HT_.out (by kernel_rfl)) (fun _ _ _ h => h) (Or.inl ⟨by rfl, ?_⟩) ?_ ?_
                rotate_left
                · intro w'
                  go_simp
                  with_reducible rfl
                rotate_left
                · simp only [Act.put, List.setIfInBounds_toArray, List.set_cons_zero, List.set_cons_succ, i64_w, i32_w]
                  rfl
                refine pure_ (i := 1) (N := some 18) (v := ?_) (a' := ?_) #[true, true, false, false, false, false, false, false, false, false] rfl rfl (any_of HT_.out (by kernel_rfl)) (fun _ _ _ h => h) (Or.inl ⟨by rfl, ?_⟩) ?_ ?_
                rotate_left
                · intro w'
                  go_simp
                  with_reducible rfl
                rotate_left
                · simp only [Act.put, List.setIfInBounds_toArray, List.set_cons_zero, List.set_cons_succ, i64_w, i32_w]
                  rfl
                refine pure_ (i := 2) (N := some 19) (v := ?_) (a' := ?_) #[true, true, true, false, false, false, false, false, false, false] rfl rfl (any_of HT_.out (by kernel_rfl)) (fun _ _ _ h => h) (Or.inl ⟨by rfl, ?_⟩) ?_ ?_
                rotate_left
                · intro w'
                  go_simp
                  with_reducible rfl
                rotate_left
                · simp only [Act.put, List.setIfInBounds_toArray, List.set_cons_zero, List.set_cons_succ, i64_w, i32_w]
                  rfl
                refine pure_ (i := 4) (N := some 21) (v := ?_) (a' := ?_) #[true, true, true, false, true, false, false, false, false, false] rfl rfl (any_of HT_.out (by kernel_rfl)) (fun _ _ _ h => h) (Or.inl ⟨by rfl, ?_⟩) ?_ ?_
                rotate_left
                · intro w'
                  go_simp
                  with_reducible rfl
                rotate_left
                · simp only [Act.put, List.setIfInBounds_toArray, List.set_cons_zero, List.set_cons_succ, i64_w, i32_w]
                  rfl
                refine pure_ (i := 5) (N := some 22) (v := ?_) (a' := ?_) #[true, true, true, false, true, true, false, false, false, false] rfl rfl (any_of HT_.out (by kernel_rfl)) (fun _ _ _ h => h) (Or.inl ⟨by rfl, ?_⟩) ?_ ?_
                rotate_left
                · intro w'
                  go_simp
                  with_reducible rfl
                rotate_left
                · simp only [Act.put, List.setIfInBounds_toArray, List.set_cons_zero, List.set_cons_succ, i64_w, i32_w]
                  rfl
                refine pure_ (i := 6) (N := some 23) (v := ?_) (a' := ?_) #[true, true, true, false, true, true, true, false, false, false] rfl rfl (any_of HT_.out (by kernel_rfl)) (fun _ _ _ h => h) (Or.inl ⟨by rfl, ?_⟩) ?_ ?_
                rotate_left
                · intro w'
                  go_simp
                  with_reducible rfl
                rotate_left
                · simp only [Act.put, List.setIfInBounds_toArray, List.set_cons_zero, List.set_cons_succ, i64_w, i32_w]
                  rfl
                refine take_ (i := 3) (N := some 20) (v := ?_) (a' := ?_) #[true, true, true, true, true, true, true, false, false, false] rfl rfl (take_ofW HT_.out HW_.out (by kernel_rfl)) (fun _ _ _ h => h) (Or.inl ⟨by rfl, ?_⟩) hHeld ?_ ?_
                rotate_left
                · rintro w' ⟨s0, s1, s2, s3, s4, s5, s6, s7, s8, s9, s10, s11, s12, s13, s14, s15, s16, s17, s18, s19, s20, s21, s22, s23⟩
                  go_simp
                  with_reducible rfl
                rotate_left
                · simp only [Act.put, List.setIfInBounds_toArray, List.set_cons_zero, List.set_cons_succ, i64_w, i32_w]
                  rfl
                refine take_ (i := 7) (N := some 24) (v := ?_) (a' := ?_) #[true, true, true, true, true, true, true, true, false, false] rfl rfl (take_ofW HT_.out HW_.out (by kernel_rfl)) (fun _ _ _ h => h) (Or.inl ⟨by rfl, ?_⟩) hHeld ?_ ?_
                rotate_left
                · rintro w' ⟨s0, s1, s2, s3, s4, s5, s6, s7, s8, s9, s10, s11, s12, s13, s14, s15, s16, s17, s18, s19, s20, s21, s22, s23⟩
                  go_simp
                  with_reducible rfl
                rotate_left
                · simp only [Act.put, List.setIfInBounds_toArray, List.set_cons_zero, List.set_cons_succ, i64_w, i32_w]
                  rfl
                refine one_ (i := 8) (N := some 25) #[true, true, true, true, true, true, true, true, true, false] rfl rfl (one_of HT_.out (by kernel_rfl)) (by decide) (fun K hK => ?_)
                refine goes_ Try.func11 (by kernel_rfl) rfl #[.agg #[.int .i64 ((rd_T32 l0 x5_1).f0.f0), .int .i64 ((rd_T32 l0 x5_1).f0.f1), .string ((rd_T32 l0 x5_1).f0.f2), .int .i64 ((rd_T32 l0 x5_1).f1), .int .i64 ((rd_T32 l0 x5_1).f2.f0), .int .i64 ((rd_T32 l0 x5_1).f2.f1), .string ((rd_T32 l0 x5_1).f2.f2), .int .i64 ((rd_T32 l0 x5_1).f3), .slice A144_8 ((rd_T32 l0 x5_1).f4).length c144_8, .slice A144_9 ((rd_T32 l0 x5_1).f5).length c144_9, .int .i64 ((rd_T32 l0 x5_1).f6), .int .i64 ((rd_T32 l0 x5_1).f7)], .agg #[.int .i64 ((rd_T32 l1 x5_1).f0.f0), .int .i64 ((rd_T32 l1 x5_1).f0.f1), .string ((rd_T32 l1 x5_1).f0.f2), .int .i64 ((rd_T32 l1 x5_1).f1), .int .i64 ((rd_T32 l1 x5_1).f2.f0), .int .i64 ((rd_T32 l1 x5_1).f2.f1), .string ((rd_T32 l1 x5_1).f2.f2), .int .i64 ((rd_T32 l1 x5_1).f3), .slice A145_8 ((rd_T32 l1 x5_1).f4).length c145_8, .slice A145_9 ((rd_T32 l1 x5_1).f5).length c145_9, .int .i64 ((rd_T32 l1 x5_1).f6), .int .i64 ((rd_T32 l1 x5_1).f7)]] (by rfl) rfl rfl (by (try simp only [List.map_toArray, List.map_cons, List.map_nil]); first | done | rfl | (simp only [List.length_drop, List.length_take]; rfl)) ?_
                with_reducible refine (incognitoref12_One.calls k1 ((rd_T32 l0 x5_1).f0.f0) ((rd_T32 l0 x5_1).f0.f1) ((rd_T32 l0 x5_1).f0.f2) ((rd_T32 l0 x5_1).f1) ((rd_T32 l0 x5_1).f2.f0) ((rd_T32 l0 x5_1).f2.f1) ((rd_T32 l0 x5_1).f2.f2) ((rd_T32 l0 x5_1).f3) _ _ ((rd_T32 l0 x5_1).f4) _ _ ((rd_T32 l0 x5_1).f5) ((rd_T32 l0 x5_1).f6) ((rd_T32 l0 x5_1).f7) ((rd_T32 l1 x5_1).f0.f0) ((rd_T32 l1 x5_1).f0.f1) ((rd_T32 l1 x5_1).f0.f2) ((rd_T32 l1 x5_1).f1) ((rd_T32 l1 x5_1).f2.f0) ((rd_T32 l1 x5_1).f2.f1) ((rd_T32 l1 x5_1).f2.f2) ((rd_T32 l1 x5_1).f3) _ _ ((rd_T32 l1 x5_1).f4) _ _ ((rd_T32 l1 x5_1).f5) ((rd_T32 l1 x5_1).f6) ((rd_T32 l1 x5_1).f7) false _ ?side1 ?side2 ?side3 ?side4 ?side5 ?side6 ?side7 ?side8 A7.out).mono ?_
                (case side1 => repeat (first | exact (Kd.C_below HR144_8.out HB.out) | (with_reducible refine Kd.C_alloc ?_ _) | (with_reducible refine Kd.C_drewN ?_ _) | (with_reducible refine Kd.C_drew ?_)))
                (case side2 => exact HC144_8.out)
                (case side3 => repeat (first | exact (Kd.C_below HR144_9.out HB.out) | (with_reducible refine Kd.C_alloc ?_ _) | (with_reducible refine Kd.C_drewN ?_ _) | (with_reducible refine Kd.C_drew ?_)))
                (case side4 => exact HC144_9.out)
                (case side5 => repeat (first | exact (Kd.C_below HR145_8.out HB.out) | (with_reducible refine Kd.C_alloc ?_ _) | (with_reducible refine Kd.C_drewN ?_ _) | (with_reducible refine Kd.C_drew ?_)))
                (case side6 => exact HC145_8.out)
                (case side7 => repeat (first | exact (Kd.C_below HR145_9.out HB.out) | (with_reducible refine Kd.C_alloc ?_ _) | (with_reducible refine Kd.C_drewN ?_ _) | (with_reducible refine Kd.C_drew ?_)))
                (case side8 => exact HC145_9.out)
                rintro e w12 ⟨rfl, hb⟩
                refine ⟨_, rfl, ?_⟩
                have n0_ := Aside0.mk (below_step (by repeat (first | (with_reducible first | exact HB.out | apply below_alloc | apply pw_below_drewN | apply below_drew1) | exact HB.out)) hb)
                clear HB
                have HB := n0_
                clear n0_
                (try clear hb)
                (try clear hb2)
                (try clear hk)
                (try clear hi)
                refine hK.out _ _ ⟨((HB.out.cell (World.block_lt_of_cell? w _ hw144_0)).trans hw144_0), ((HB.out.cell (World.block_lt_of_cell? w _ hw144_1)).trans hw144_1), ((HB.out.cell (World.block_lt_of_cell? w _ hw144_2)).trans hw144_2), ((HB.out.cell (World.block_lt_of_cell? w _ hw144_3)).trans hw144_3), ((HB.out.cell (World.block_lt_of_cell? w _ hw144_4)).trans hw144_4), ((HB.out.cell (World.block_lt_of_cell? w _ hw144_5)).trans hw144_5), ((HB.out.cell (World.block_lt_of_cell? w _ hw144_6)).trans hw144_6), ((HB.out.cell (World.block_lt_of_cell? w _ hw144_7)).trans hw144_7), ((HB.out.cell (World.block_lt_of_cell? w _ hw144_8)).trans hw144_8), ((HB.out.cell (World.block_lt_of_cell? w _ hw144_9)).trans hw144_9), ((HB.out.cell (World.block_lt_of_cell? w _ hw144_10)).trans hw144_10), ((HB.out.cell (World.block_lt_of_cell? w _ hw144_11)).trans hw144_11), ((HB.out.cell (World.block_lt_of_cell? w _ hw145_0)).trans hw145_0), ((HB.out.cell (World.block_lt_of_cell? w _ hw145_1)).trans hw145_1), ((HB.out.cell (World.block_lt_of_cell? w _ hw145_2)).trans hw145_2), ((HB.out.cell (World.block_lt_of_cell? w _ hw145_3)).trans hw145_3), ((HB.out.cell (World.block_lt_of_cell? w _ hw145_4)).trans hw145_4), ((HB.out.cell (World.block_lt_of_cell? w _ hw145_5)).trans hw145_5), ((HB.out.cell (World.block_lt_of_cell? w _ hw145_6)).trans hw145_6), ((HB.out.cell (World.block_lt_of_cell? w _ hw145_7)).trans hw145_7), ((HB.out.cell (World.block_lt_of_cell? w _ hw145_8)).trans hw145_8), ((HB.out.cell (World.block_lt_of_cell? w _ hw145_9)).trans hw145_9), ((HB.out.cell (World.block_lt_of_cell? w _ hw145_10)).trans hw145_10), ((HB.out.cell (World.block_lt_of_cell? w _ hw145_11)).trans hw145_11)⟩ (fun hHeld => ?_)
                clear hK K
                refine norm_ (a' := ?_) ?_ ?_
                rotate_left
                · show Act.put _ (some 25) _ = _
                  simp only [Act.put, List.setIfInBounds_toArray, List.set_cons_zero, List.set_cons_succ, i64_w, i32_w]
                  rfl
                refine pure_ (i := 9) (N := some 26) (v := ?_) (a' := ?_) #[true, true, true, true, true, true, true, true, true, true] rfl rfl (any_of HT_.out (by kernel_rfl)) (fun _ _ _ h => h) (Or.inl ⟨by rfl, ?_⟩) ?_ ?_
                rotate_left
                · intro w'
                  go_simp
                  with_reducible rfl
                rotate_left
                · simp only [Act.put, List.setIfInBounds_toArray, List.set_cons_zero, List.set_cons_succ, i64_w, i32_w]
                  rfl
                refine done_ (done_of HT_.out (by kernel_rfl)) ?_
                try go_wp2
                go_ret
                exact ⟨by first | rfl | (simp [errW_none, errW_some] <;> rfl) | (simp [*, errW_none, errW_some] <;> rfl), by repeat (first | (with_reducible first | exact HB.out | apply below_alloc | apply pw_below_drewN | apply below_drew1) | exact HB.out)⟩
            · rw [if_neg c6] at H
              exact absurd H (by simp)
          · rw [if_neg c5] at H
            exact absurd H (by simp)
        · rw [if_neg c4] at H
          have c4b0 : decide (x5_1 < (l0.length : Int)) = false := decide_eq_false c4
          clear c4
          obtain rfl := Option.some.inj H
          go_wp2
          go_ret
          exact ⟨by first | rfl | (simp [errW_none, errW_some] <;> rfl) | (simp [*, errW_none, errW_some] <;> rfl), by repeat (first | (with_reducible first | exact HB.out | apply below_alloc | apply pw_below_drewN | apply below_drew1) | exact HB.out)⟩
  · rw [if_neg c3] at H
    have c3b0 : ((l0.length : Int) == (l1.length : Int)) = false := beq_eq_false_iff_ne.mpr c3
    have c3b1 : ((l0.length : Int) != (l1.length : Int)) = true := bne_iff_ne.mpr c3
    have c3b2 : (l0.length == l1.length) = false := by first | simpa using c3 | (simp at c3 ⊢; omega)
    obtain rfl := Option.some.inj H
    go_enter Try.func6, Try.ntmps6
    go_wp2
    go_ret
    exact ⟨by first | rfl | (simp [errW_none, errW_some] <;> rfl) | (simp [*, errW_none, errW_some] <;> rfl), by repeat (first | (with_reducible first | exact HB.out | apply below_alloc | apply pw_below_drewN | apply below_drew1) | exact HB.out)⟩

end Go.Proofs.Ytbogookhndaeeaa.PP
