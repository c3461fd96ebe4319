-- A text of this seat: turned out of what the print tool wrote.
import Derived.Test.YtbogookhndaeeaaQ0
import Derived.Test.YtbogookhndaeeaaQ5
namespace Go.Proofs.Ytbogookhndaeeaa.PP
open Go.RowKit Go.Proofs.YtbogookhndaeeaaW.PrintWords Go.Proofs.YtbogookhndaeeaaW.PrintLast Go.Proofs.YtbogookhndaeeaaW.PrintMore
attribute [local go_sem] max2_int min2_int max_two min_two max_three min_three max_four min_four   -- for this text's walks alone
set_option linter.unusedVariables false
set_option linter.unusedSimpArgs false

/-! ### part_Pick: function 5 -/
mutual
def part_Pick.l0 : Nat → List (S32) → List (S32) → List Int → Int → Int → Option ((List (S32)))
  | 0, _, _, _, _, _ => none
  | k + 1, x0, x5, x9, x10, x11 => if x11 < x10 then (if 0 ≤ x11 then (if x11 < (x9.length : Int) then (if (rd x9 x11) < 0 then (part_Pick.j1 k x0 x5 (rd x9 x11) x9 x10 x11 true) else (part_Pick.j1 k x0 x5 (rd x9 x11) x9 x10 x11 (decide ((rd x9 x11) ≥ (x0.length : Int))))) else (none)) else (none)) else (some x5)
def part_Pick.j1 : Nat → List (S32) → List (S32) → Int → List Int → Int → Int → Bool → Option ((List (S32)))
  | 0, _, _, _, _, _, _, _ => none
  | k + 1, x0, x5, x7, x9, x10, x11, x22 => if x22 = true then (part_Pick.l0 k x0 x5 x9 x10 (wrap64 (x11 + 1))) else (if 0 ≤ x7 then (if x7 < (x0.length : Int) then ((api_Value.f ((rd_T32 x0 x7).f4)).bind fun t129 => ((api_Value.f ((rd_T32 x0 x7).f5)).bind fun t132 => (if x5.length < 977343669134 then (part_Pick.l0 k x0 (x5 ++ [(⟨(⟨(rd_T32 x0 x7).f0.f0, (rd_T32 x0 x7).f0.f1, (rd_T32 x0 x7).f0.f2⟩ : S29), (rd_T32 x0 x7).f1, (⟨(rd_T32 x0 x7).f2.f0, (rd_T32 x0 x7).f2.f1, (rd_T32 x0 x7).f2.f2⟩ : S29), (rd_T32 x0 x7).f3, t129, t132, (rd_T32 x0 x7).f6, (rd_T32 x0 x7).f7⟩ : S32)]) x9 x10 (wrap64 (x11 + 1))) else (none)))) else (none)) else (none))
end
def part_Pick.f (k : Nat) (l0 : List (S32)) (l1 : List Int) : Option ((List (S32))) := part_Pick.l0 k l0 ([] : List (S32)) l1 (l1.length : Int) 0
theorem part_Pick.mono_l : ∀ k, (∀ y0 y1 y2 y3 y4, LeO (part_Pick.l0 k y0 y1 y2 y3 y4) (part_Pick.l0 (k + 1) y0 y1 y2 y3 y4)) ∧ (∀ y0 y1 y2 y3 y4 y5 y6, LeO (part_Pick.j1 k y0 y1 y2 y3 y4 y5 y6) (part_Pick.j1 (k + 1) y0 y1 y2 y3 y4 y5 y6))
  | 0 => ⟨fun _ _ _ _ _ r h => by simp [part_Pick.l0] at h, fun _ _ _ _ _ _ _ r h => by simp [part_Pick.j1] at h⟩
  | k + 1 => by
    obtain ⟨ih0, ih1⟩ := part_Pick.mono_l k
    refine ⟨?_, ?_⟩
    · intro y0 y1 y2 y3 y4
      unfold part_Pick.l0
      repeat' first
      | (with_reducible exact ih0 _ _ _ _ _)
      | (with_reducible exact ih1 _ _ _ _ _ _ _)
      | (with_reducible exact LeO.refl _)
      | (with_reducible exact LeO.none _)
      | (with_reducible refine LeO.ite ?_ ?_)
      | (with_reducible refine LeO.bind ?_ (fun _ => ?_))
      | exact ih0 _ _ _ _ _
      | exact ih1 _ _ _ _ _ _ _
      | exact LeO.none _
      | refine LeO.ite ?_ ?_
      | refine LeO.bind ?_ (fun _ => ?_)
    · intro y0 y1 y2 y3 y4 y5 y6
      unfold part_Pick.j1
      repeat' first
      | (with_reducible exact ih0 _ _ _ _ _)
      | (with_reducible exact ih1 _ _ _ _ _ _ _)
      | (with_reducible exact LeO.refl _)
      | (with_reducible exact LeO.none _)
      | (with_reducible refine LeO.ite ?_ ?_)
      | (with_reducible refine LeO.bind ?_ (fun _ => ?_))
      | exact ih0 _ _ _ _ _
      | exact ih1 _ _ _ _ _ _ _
      | exact LeO.none _
      | refine LeO.ite ?_ ?_
      | refine LeO.bind ?_ (fun _ => ?_)
theorem part_Pick.mono : ∀ a0 a1 k, LeO (part_Pick.f k a0 a1) (part_Pick.f (k + 1) a0 a1) := by
  intro a0 a1 k
  obtain ⟨ih0, ih1⟩ := part_Pick.mono_l k
  unfold part_Pick.f
  repeat' first
      | (with_reducible exact ih0 _ _ _ _ _)
      | (with_reducible exact ih1 _ _ _ _ _ _ _)
      | (with_reducible exact LeO.refl _)
      | (with_reducible exact LeO.none _)
      | (with_reducible refine LeO.ite ?_ ?_)
      | (with_reducible refine LeO.bind ?_ (fun _ => ?_))
      | exact ih0 _ _ _ _ _
      | exact ih1 _ _ _ _ _ _ _
      | exact LeO.none _
      | refine LeO.ite ?_ ?_
      | refine LeO.bind ?_ (fun _ => ?_)
def part_Pick.T7 : Bool × List (List Nat × List Nat) := (true, [([], []), ([0], [0]), ([1], [1]), ([], []), ([3], [3]), ([4, 2], [4]), ([0, 1, 2, 3, 4], []), ([6, 2, 5, 0, 1, 2, 3, 4], [2, 6]), ([0, 1, 2, 3, 4, 5, 6, 7], []), ([8, 5, 7, 0, 1, 2, 3, 4, 5, 6, 7], [5, 8])])
def part_Pick.B7 : List Nat := [0, 1, 3, 0, 8, 31, 31, 127, 255, 511]
theorem part_Pick.tab7 : rtab .any (opsOf Try.f5 7) = part_Pick.T7 := by kernel_rfl
theorem part_Pick.bits7 : waitsOk part_Pick.T7.2 part_Pick.B7 = true := by kernel_rfl
set_option maxHeartbeats 8000000 in
set_option maxRecDepth 100000 in
theorem part_Pick.calls (k : Nat) (A0 : Option Addr) (c0 : Nat) (l0 : List (S32)) (A1 : Option Addr) (c1 : Nat) (l1 : List Int) (r : List (S32)) (w : World) (hr0 : Kd.C k32 w A0 l0.length l0) (hc0 : l0.length ≤ c0) (hr1 : Kd.C (Kd.int .i64) w A1 l1.length l1) (hc1 : l1.length ≤ c1) (h : part_Pick.f k l0 l1 = some r) :
    Calls Try.prog 5 #[.slice A0 l0.length c0, .slice A1 l1.length c1] w fun e w' => ∃ v0_ : Value, e = .returned (v0_) ∧ Kd.S k32 32 w' w.heap.size (fun _ => True) v0_ r ∧ Below w.heap.size w w' := by
  have hu32 := Try.underlying32
  have HR0 := Aside0.mk hr0
  have HC0 := Aside0.mk hc0
  clear hr0 hc0
  have HR1 := Aside0.mk hr1
  have HC1 := Aside0.mk hc1
  clear hr1 hc1
  have HB := Aside0.mk (Below.refl w.heap.size w)
  have H : (part_Pick.l0 k l0 ([] : List (S32)) l1 (l1.length : Int) 0) = some r := h
  clear h
  have H' := Aside0.mk H
  clear H
  go_enter Try.func5, Try.ntmps5
  go_wp2
  go_loopg [5, 11] k (fun kq v5 v11 w' => ∃ (x5_1 : List (S32)) (x11_1 : Int), v11 = .int .i64 x11_1 ∧ Aside0 (part_Pick.l0 kq l0 x5_1 l1 (l1.length : Int) x11_1 = some r) ∧ Aside0 (kq ≤ k) ∧ Aside0 (Kd.S k32 32 w' w.heap.size (fun _ => True) v5 x5_1) ∧ Aside0 (Below w.heap.size w w'))
  case atStart => exact ⟨(([] : List (S32))), (0), (by first | rfl | (simp; done) | (simp [*]; done)), H', ⟨Nat.le_refl _⟩, ⟨by first | exact Kd.S_nil _ _ _ _ _ | exact Kd.N_nil _ _ _ _ _ | exact Kd.V_nil _ _ _ _ _ | exact Kd.Q_nil _ _ _ _ _ | exact Kd.R_nil _ _ _ _ _⟩, ⟨by repeat (first | (with_reducible first | exact HB.out | apply below_alloc | apply pw_below_drewN | apply below_drew1) | exact HB.out)⟩⟩
  case round =>
    clear H'
    try clear c1
    try clear p2
    obtain ⟨x5_1, x11_1, rfl, HA, HK1, HO_5, HB⟩ := hrel
    cases gk with
    | zero => exact absurd HA.out (by simp [part_Pick.l0])
    | succ k1 =>
      have H := HA.out
      clear HA
      simp only [part_Pick.l0] at H
      by_cases c3 : x11_1 < (l1.length : Int)
      · rw [if_pos c3] at H
        have c3b0 : decide (x11_1 < (l1.length : Int)) = true := decide_eq_true c3
        clear c3
        by_cases c4 : 0 ≤ x11_1
        · rw [if_pos c4] at H
          have c4b0 : decide (0 ≤ x11_1) = true := decide_eq_true c4
          clear c4
          by_cases c5 : x11_1 < (l1.length : Int)
          · rw [if_pos c5] at H
            have c5b0 : decide (x11_1 < (l1.length : Int)) = true := decide_eq_true c5
            clear c5
            have HC6 := Aside0.mk H
            clear H
            have p126 : 0 ≤ (x11_1 : Int) := of_decide_eq_true (by first | (with_reducible assumption) | assumption)
            have q126 : x11_1 < (l1.length : Int) := of_decide_eq_true (by first | (with_reducible assumption) | assumption)
            obtain ⟨ad126, e126, hx126_0⟩ := Kd.at_int HR1.out x11_1 p126 q126
            cases e126
            replace hx126_0 := (HB.out.cell (World.block_lt_of_cell? w _ hx126_0)).trans hx126_0
            replace p126 := eq_true p126
            replace q126 := eq_true q126
            go_upto_region 5 with (fail)
            go_cut [22] (fun v22 wc => ∃ (kq : Nat) (x22_5 : Bool), v22 = .bool x22_5 ∧ Aside0 (part_Pick.j1 kq l0 x5_1 (rd l1 x11_1) l1 (l1.length : Int) x11_1 x22_5 = some r) ∧ Aside0 (kq ≤ k1) ∧ Aside0 (Kd.S k32 32 wc w.heap.size (fun _ => True) u5 x5_1) ∧ Aside0 (Below w.heap.size w wc))
            case first =>
              have H := HC6.out
              clear HC6
              by_cases c7 : (rd l1 x11_1) < 0
              · rw [if_pos c7] at H
                have c7b0 : decide ((rd l1 x11_1) < 0) = true := decide_eq_true c7
                clear c7
                (first | rw [c7b0] | (simp only [i64_w, i32_w]; rw [c7b0]) | skip)
                have H' := Aside0.mk H
                clear H
                go_wp2
                go_meet
                case rel => exact ⟨_, (true), (by first | rfl | (simp; done) | (simp [*]; done)), H', ⟨by have := HK1.out; first | omega | exact Nat.le_refl _⟩, ⟨by (with_reducible repeat (first | apply Kd.S_alloc | apply Kd.S_drewN | apply Kd.S_drew)); exact HO_5.out⟩, ⟨by repeat (first | (with_reducible first | exact HB.out | apply below_alloc | apply pw_below_drewN | apply below_drew1) | exact HB.out)⟩⟩
              · rw [if_neg c7] at H
                have c7b0 : decide ((rd l1 x11_1) < 0) = false := decide_eq_false c7
                clear c7
                (first | rw [c7b0] | (simp only [i64_w, i32_w]; rw [c7b0]) | skip)
                have H' := Aside0.mk H
                clear H
                go_wp2
                go_meet
                case rel => exact ⟨_, (decide ((rd l1 x11_1) ≥ (l0.length : Int))), (by first | rfl | (simp; done) | (simp [*]; done)), H', ⟨by have := HK1.out; first | omega | exact Nat.le_refl _⟩, ⟨by (with_reducible repeat (first | apply Kd.S_alloc | apply Kd.S_drewN | apply Kd.S_drew)); exact HO_5.out⟩, ⟨by repeat (first | (with_reducible first | exact HB.out | apply below_alloc | apply pw_below_drewN | apply below_drew1) | exact HB.out)⟩⟩
            case rest =>
              clear HC6
              try clear c1
              try clear p1
              try clear q1
              try clear hx1
              try clear p2
              try clear c3
              try clear c3b0
              try clear c4
              try clear c4b0
              try clear c5
              try clear c5b0
              try clear c7
              try clear c7b0
              try clear hx126_0
              try clear p126
              try clear p2
              try clear q126
              obtain ⟨kq, x22_5, rfl, HA, HJ5, HO_5, HB⟩ := hcut
              cases kq with
              | zero => exact absurd HA.out (by simp [part_Pick.j1])
              | succ kj5 =>
                have H := HA.out
                clear HA
                simp only [part_Pick.j1] at H
                by_cases c8 : x22_5 = true
                · subst c8
                  have H1 : (part_Pick.l0 kj5 l0 x5_1 l1 (l1.length : Int) (wrap64 (x11_1 + 1))) = some r := by rw [if_pos rfl] at H; exact H
                  clear H
                  have H := H1
                  clear H1
                  have H' := Aside0.mk H
                  clear H
                  go_wp2
                  go_roundg kj5
                  case measure => have := HK1.out; have := HJ5.out; omega
                  case rel => exact ⟨(x5_1), (wrap64 (x11_1 + 1)), (by first | rfl | (simp; done) | (simp [*]; done)), H', ⟨by have := HK1.out; have := HJ5.out; omega⟩, ⟨by (with_reducible repeat (first | apply Kd.S_alloc | apply Kd.S_drewN | apply Kd.S_drew)); exact HO_5.out⟩, ⟨by repeat (first | (with_reducible first | exact HB.out | apply below_alloc | apply pw_below_drewN | apply below_drew1) | exact HB.out)⟩⟩
                · replace c8 := Bool.eq_false_iff.mpr c8
                  subst c8
                  have H1 : (if 0 ≤ (rd l1 x11_1) then (if (rd l1 x11_1) < (l0.length : Int) then ((api_Value.f ((rd_T32 l0 (rd l1 x11_1)).f4)).bind fun t129 => ((api_Value.f ((rd_T32 l0 (rd l1 x11_1)).f5)).bind fun t132 => (if x5_1.length < 977343669134 then (part_Pick.l0 kj5 l0 (x5_1 ++ [(⟨(⟨(rd_T32 l0 (rd l1 x11_1)).f0.f0, (rd_T32 l0 (rd l1 x11_1)).f0.f1, (rd_T32 l0 (rd l1 x11_1)).f0.f2⟩ : S29), (rd_T32 l0 (rd l1 x11_1)).f1, (⟨(rd_T32 l0 (rd l1 x11_1)).f2.f0, (rd_T32 l0 (rd l1 x11_1)).f2.f1, (rd_T32 l0 (rd l1 x11_1)).f2.f2⟩ : S29), (rd_T32 l0 (rd l1 x11_1)).f3, t129, t132, (rd_T32 l0 (rd l1 x11_1)).f6, (rd_T32 l0 (rd l1 x11_1)).f7⟩ : S32)]) l1 (l1.length : Int) (wrap64 (x11_1 + 1))) else (none)))) else (none)) else (none)) = some r := by rw [if_neg (show ¬ (false = true) by decide)] at H; exact H
                  clear H
                  have H := H1
                  clear H1
                  by_cases c9 : 0 ≤ (rd l1 x11_1)
                  · rw [if_pos c9] at H
                    have c9b0 : decide (0 ≤ (rd l1 x11_1)) = true := decide_eq_true c9
                    clear c9
                    by_cases c10 : (rd l1 x11_1) < (l0.length : Int)
                    · rw [if_pos c10] at H
                      have c10b0 : decide ((rd l1 x11_1) < (l0.length : Int)) = true := decide_eq_true c10
                      clear c10
                      replace H := Option.bind_eq_some_iff.mp H
                      obtain ⟨t129, A110, H⟩ := H
                      replace H : ((api_Value.f ((rd_T32 l0 (rd l1 x11_1)).f5)).bind fun t132 => (if x5_1.length < 977343669134 then (part_Pick.l0 kj5 l0 (x5_1 ++ [(⟨(⟨(rd_T32 l0 (rd l1 x11_1)).f0.f0, (rd_T32 l0 (rd l1 x11_1)).f0.f1, (rd_T32 l0 (rd l1 x11_1)).f0.f2⟩ : S29), (rd_T32 l0 (rd l1 x11_1)).f1, (⟨(rd_T32 l0 (rd l1 x11_1)).f2.f0, (rd_T32 l0 (rd l1 x11_1)).f2.f1, (rd_T32 l0 (rd l1 x11_1)).f2.f2⟩ : S29), (rd_T32 l0 (rd l1 x11_1)).f3, t129, t132, (rd_T32 l0 (rd l1 x11_1)).f6, (rd_T32 l0 (rd l1 x11_1)).f7⟩ : S32)]) l1 (l1.length : Int) (wrap64 (x11_1 + 1))) else (none))) = some r := H
                      have A11 := Aside0.mk A110
                      clear A110
                      replace H := Option.bind_eq_some_iff.mp H
                      obtain ⟨t132, A120, H⟩ := H
                      replace H : (if x5_1.length < 977343669134 then (part_Pick.l0 kj5 l0 (x5_1 ++ [(⟨(⟨(rd_T32 l0 (rd l1 x11_1)).f0.f0, (rd_T32 l0 (rd l1 x11_1)).f0.f1, (rd_T32 l0 (rd l1 x11_1)).f0.f2⟩ : S29), (rd_T32 l0 (rd l1 x11_1)).f1, (⟨(rd_T32 l0 (rd l1 x11_1)).f2.f0, (rd_T32 l0 (rd l1 x11_1)).f2.f1, (rd_T32 l0 (rd l1 x11_1)).f2.f2⟩ : S29), (rd_T32 l0 (rd l1 x11_1)).f3, t129, t132, (rd_T32 l0 (rd l1 x11_1)).f6, (rd_T32 l0 (rd l1 x11_1)).f7⟩ : S32)]) l1 (l1.length : Int) (wrap64 (x11_1 + 1))) else (none)) = some r := H
                      have A12 := Aside0.mk A120
                      clear A120
                      by_cases c13 : x5_1.length < 977343669134
                      · rw [if_pos c13] at H
                        have LMc13 := Aside0.mk c13
                        clear c13
                        obtain ⟨y135, hy135⟩ : ∃ y_ : List (S32), y_ = (x5_1 ++ [(⟨(⟨(rd_T32 l0 (rd l1 x11_1)).f0.f0, (rd_T32 l0 (rd l1 x11_1)).f0.f1, (rd_T32 l0 (rd l1 x11_1)).f0.f2⟩ : S29), (rd_T32 l0 (rd l1 x11_1)).f1, (⟨(rd_T32 l0 (rd l1 x11_1)).f2.f0, (rd_T32 l0 (rd l1 x11_1)).f2.f1, (rd_T32 l0 (rd l1 x11_1)).f2.f2⟩ : S29), (rd_T32 l0 (rd l1 x11_1)).f3, t129, t132, (rd_T32 l0 (rd l1 x11_1)).f6, (rd_T32 l0 (rd l1 x11_1)).f7⟩ : S32)]) := ⟨_, rfl⟩
                        replace H : (part_Pick.l0 kj5 l0 y135 l1 (l1.length : Int) (wrap64 (x11_1 + 1))) = some r := by first | (rw [hy135]; with_reducible exact H) | (have H2_ := (Option.bind_some _ _).symm.trans H; rw [hy135]; with_reducible exact H2_) | (have H2_ := (Option.bind_some _ _).symm.trans H; with_reducible exact H2_) | with_reducible exact H | (rw [hy135]; exact H) | exact H
                        have Ny135 := Aside0.mk hy135
                        clear hy135
                        have H' := Aside0.mk H
                        clear H
                        have p127 : 0 ≤ ((rd l1 x11_1) : Int) := of_decide_eq_true (by first | (with_reducible assumption) | assumption)
                        have q127 : (rd l1 x11_1) < (l0.length : Int) := of_decide_eq_true (by first | (with_reducible assumption) | assumption)
                        obtain ⟨ad127, A127_8, c127_8, A127_9, c127_9, e127, hx127_0, hx127_1, hx127_2, hx127_3, hx127_4, hx127_5, hx127_6, hx127_7, hx127_8, hx127_9, hx127_10, hx127_11, hl127_8, hi127_8, hl127_9, hi127_9⟩ := at_T32 HR0.out (rd l1 x11_1) p127 q127
                        cases e127
                        replace hx127_0 := (HB.out.cell (World.block_lt_of_cell? w _ hx127_0)).trans hx127_0
                        replace hx127_1 := (HB.out.cell (World.block_lt_of_cell? w _ hx127_1)).trans hx127_1
                        replace hx127_2 := (HB.out.cell (World.block_lt_of_cell? w _ hx127_2)).trans hx127_2
                        replace hx127_3 := (HB.out.cell (World.block_lt_of_cell? w _ hx127_3)).trans hx127_3
                        replace hx127_4 := (HB.out.cell (World.block_lt_of_cell? w _ hx127_4)).trans hx127_4
                        replace hx127_5 := (HB.out.cell (World.block_lt_of_cell? w _ hx127_5)).trans hx127_5
                        replace hx127_6 := (HB.out.cell (World.block_lt_of_cell? w _ hx127_6)).trans hx127_6
                        replace hx127_7 := (HB.out.cell (World.block_lt_of_cell? w _ hx127_7)).trans hx127_7
                        replace hx127_8 := (HB.out.cell (World.block_lt_of_cell? w _ hx127_8)).trans hx127_8
                        replace hx127_9 := (HB.out.cell (World.block_lt_of_cell? w _ hx127_9)).trans hx127_9
                        replace hx127_10 := (HB.out.cell (World.block_lt_of_cell? w _ hx127_10)).trans hx127_10
                        replace hx127_11 := (HB.out.cell (World.block_lt_of_cell? w _ hx127_11)).trans hx127_11
                        have HR127_8 := Aside0.mk hi127_8
                        have HC127_8 := Aside0.mk hl127_8
                        clear hi127_8 hl127_8
                        have HR127_9 := Aside0.mk hi127_9
                        have HC127_9 := Aside0.mk hl127_9
                        clear hi127_9 hl127_9
                        replace p127 := eq_true p127
                        replace q127 := eq_true q127
                        try go_wp2_with (first | ((with_reducible refine gate_dst (N := 8) rfl ?_); (try (refine gate_guard (by rfl) ?_; dsimp only)); refine box_event ?hg (N := 8) ?hd (cs := #[.int .i64 0, .int .i64 0, .string (⟨#[]⟩ : ByteArray), .int .i64 0, .int .i64 0, .int .i64 0, .string (⟨#[]⟩ : ByteArray), .int .i64 0, .slice none 0 0, .slice none 0 0, .int .i64 0, .int .i64 0]) (t := 32) ?hr ?_; (case hd => rfl); (case hg => rfl); (case hr => first | (go_simp; done) | (go_simp; rfl)); intro gb128 hg w14 hbox hb; have n0_ := Aside0.mk (Kd.S_below (Kd.S_elderB (by (with_reducible repeat (first | apply Kd.S_alloc | apply Kd.S_drewN | apply Kd.S_drew)); exact HO_5.out) gb128 (Nat.le_of_eq hg.symm)) hb); have n1_ := Aside0.mk (below_step (by repeat (first | (with_reducible first | exact HB.out | apply below_alloc | apply pw_below_drewN | apply below_drew1) | exact HB.out)) hb); have n2_ := Aside0.mk (hbox); have n3_ := Aside0.mk ((by rw [hg]; exact (below_size (by repeat (first | (with_reducible first | exact HB.out | apply below_alloc | apply pw_below_drewN | apply below_drew1) | exact HB.out))) : w.heap.size ≤ gb128)); have n4_ := Aside0.mk ((by rw [hg]; exact (below_size (by repeat (first | (with_reducible first | exact HB.out | apply below_alloc | apply pw_below_drewN | apply below_drew1) | exact HB.out))) : w.heap.size ≤ gb128)); clear HO_5; clear HB; have HO_5 := n0_; have HB := n1_; have BK128 := n2_; have GW128 := n3_; have GE128 := n4_; clear n0_ n1_ n2_ n3_ n4_; clear hb hbox hg; have hcz15_0 : w14.cell? ⟨gb128, 0, none⟩ = some (.int .i64 0) := (blk_cell BK128.out 0).trans rfl; have hcz15_1 : w14.cell? ⟨gb128, 1, none⟩ = some (.int .i64 0) := (blk_cell BK128.out 1).trans rfl; have hcz15_2 : w14.cell? ⟨gb128, 2, none⟩ = some (.string (⟨#[]⟩ : ByteArray)) := (blk_cell BK128.out 2).trans rfl; have hcz15_3 : w14.cell? ⟨gb128, 3, none⟩ = some (.int .i64 0) := (blk_cell BK128.out 3).trans rfl; have hcz15_4 : w14.cell? ⟨gb128, 4, none⟩ = some (.int .i64 0) := (blk_cell BK128.out 4).trans rfl; have hcz15_5 : w14.cell? ⟨gb128, 5, none⟩ = some (.int .i64 0) := (blk_cell BK128.out 5).trans rfl; have hcz15_6 : w14.cell? ⟨gb128, 6, none⟩ = some (.string (⟨#[]⟩ : ByteArray)) := (blk_cell BK128.out 6).trans rfl; have hcz15_7 : w14.cell? ⟨gb128, 7, none⟩ = some (.int .i64 0) := (blk_cell BK128.out 7).trans rfl; have hcz15_8 : w14.cell? ⟨gb128, 8, none⟩ = some (.slice none 0 0) := (blk_cell BK128.out 8).trans rfl; have hcz15_9 : w14.cell? ⟨gb128, 9, none⟩ = some (.slice none 0 0) := (blk_cell BK128.out 9).trans rfl; have hcz15_10 : w14.cell? ⟨gb128, 10, none⟩ = some (.int .i64 0) := (blk_cell BK128.out 10).trans rfl; have hcz15_11 : w14.cell? ⟨gb128, 11, none⟩ = some (.int .i64 0) := (blk_cell BK128.out 11).trans rfl; have hfz15_0 := blk_frozen BK128.out 0; have hfz15_1 := blk_frozen BK128.out 1; have hfz15_2 := blk_frozen BK128.out 2; have hfz15_3 := blk_frozen BK128.out 3; have hfz15_4 := blk_frozen BK128.out 4; have hfz15_5 := blk_frozen BK128.out 5; have hfz15_6 := blk_frozen BK128.out 6; have hfz15_7 := blk_frozen BK128.out 7; have hfz15_8 := blk_frozen BK128.out 8; have hfz15_9 := blk_frozen BK128.out 9; have hfz15_10 := blk_frozen BK128.out 10; have hfz15_11 := blk_frozen BK128.out 11))
                        have n0_ : Aside0 (Kd.S k32 32 ((((((((((((w14.setCell ⟨gb128, 0, none⟩ (.int .i64 ((rd_T32 l0 (rd l1 x11_1)).f0.f0))).setCell ⟨gb128, 1, none⟩ (.int .i64 ((rd_T32 l0 (rd l1 x11_1)).f0.f1))).setCell ⟨gb128, 2, none⟩ (.string ((rd_T32 l0 (rd l1 x11_1)).f0.f2))).setCell ⟨gb128, 3, none⟩ (.int .i64 ((rd_T32 l0 (rd l1 x11_1)).f1))).setCell ⟨gb128, 4, none⟩ (.int .i64 ((rd_T32 l0 (rd l1 x11_1)).f2.f0))).setCell ⟨gb128, 5, none⟩ (.int .i64 ((rd_T32 l0 (rd l1 x11_1)).f2.f1))).setCell ⟨gb128, 6, none⟩ (.string ((rd_T32 l0 (rd l1 x11_1)).f2.f2))).setCell ⟨gb128, 7, none⟩ (.int .i64 ((rd_T32 l0 (rd l1 x11_1)).f3))).setCell ⟨gb128, 8, none⟩ (.slice A127_8 ((rd_T32 l0 (rd l1 x11_1)).f4).length c127_8)).setCell ⟨gb128, 9, none⟩ (.slice A127_9 ((rd_T32 l0 (rd l1 x11_1)).f5).length c127_9)).setCell ⟨gb128, 10, none⟩ (.int .i64 ((rd_T32 l0 (rd l1 x11_1)).f6))).setCell ⟨gb128, 11, none⟩ (.int .i64 ((rd_T32 l0 (rd l1 x11_1)).f7))) w.heap.size (fun k_ => k_ ≠ gb128) u5 x5_1) := ⟨by (with_reducible repeat (first | apply Kd.S_alloc | apply Kd.S_drewN | apply Kd.S_drew)); exact Kd.S_mono (Kd.S_far (p := ⟨gb128, 11, none⟩) (Kd.S_far (p := ⟨gb128, 10, none⟩) (Kd.S_far (p := ⟨gb128, 9, none⟩) (Kd.S_far (p := ⟨gb128, 8, none⟩) (Kd.S_far (p := ⟨gb128, 7, none⟩) (Kd.S_far (p := ⟨gb128, 6, none⟩) (Kd.S_far (p := ⟨gb128, 5, none⟩) (Kd.S_far (p := ⟨gb128, 4, none⟩) (Kd.S_far (p := ⟨gb128, 3, none⟩) (Kd.S_far (p := ⟨gb128, 2, none⟩) (Kd.S_far (p := ⟨gb128, 1, none⟩) (Kd.S_far (p := ⟨gb128, 0, none⟩) (Kd.S_mono HO_5.out (fun k_ hk => (⟨hk, hk.2⟩ : _ ∧ k_ ≠ gb128))) (fun _ hk => hk.2) (.int .i64 ((rd_T32 l0 (rd l1 x11_1)).f0.f0))) (fun _ hk => hk.2) (.int .i64 ((rd_T32 l0 (rd l1 x11_1)).f0.f1))) (fun _ hk => hk.2) (.string ((rd_T32 l0 (rd l1 x11_1)).f0.f2))) (fun _ hk => hk.2) (.int .i64 ((rd_T32 l0 (rd l1 x11_1)).f1))) (fun _ hk => hk.2) (.int .i64 ((rd_T32 l0 (rd l1 x11_1)).f2.f0))) (fun _ hk => hk.2) (.int .i64 ((rd_T32 l0 (rd l1 x11_1)).f2.f1))) (fun _ hk => hk.2) (.string ((rd_T32 l0 (rd l1 x11_1)).f2.f2))) (fun _ hk => hk.2) (.int .i64 ((rd_T32 l0 (rd l1 x11_1)).f3))) (fun _ hk => hk.2) (.slice A127_8 ((rd_T32 l0 (rd l1 x11_1)).f4).length c127_8)) (fun _ hk => hk.2) (.slice A127_9 ((rd_T32 l0 (rd l1 x11_1)).f5).length c127_9)) (fun _ hk => hk.2) (.int .i64 ((rd_T32 l0 (rd l1 x11_1)).f6))) (fun _ hk => hk.2) (.int .i64 ((rd_T32 l0 (rd l1 x11_1)).f7))) (fun _ hk => hk.1.2)⟩
                        have n1_ : Aside0 (((((((((((((w14.setCell ⟨gb128, 0, none⟩ (.int .i64 ((rd_T32 l0 (rd l1 x11_1)).f0.f0))).setCell ⟨gb128, 1, none⟩ (.int .i64 ((rd_T32 l0 (rd l1 x11_1)).f0.f1))).setCell ⟨gb128, 2, none⟩ (.string ((rd_T32 l0 (rd l1 x11_1)).f0.f2))).setCell ⟨gb128, 3, none⟩ (.int .i64 ((rd_T32 l0 (rd l1 x11_1)).f1))).setCell ⟨gb128, 4, none⟩ (.int .i64 ((rd_T32 l0 (rd l1 x11_1)).f2.f0))).setCell ⟨gb128, 5, none⟩ (.int .i64 ((rd_T32 l0 (rd l1 x11_1)).f2.f1))).setCell ⟨gb128, 6, none⟩ (.string ((rd_T32 l0 (rd l1 x11_1)).f2.f2))).setCell ⟨gb128, 7, none⟩ (.int .i64 ((rd_T32 l0 (rd l1 x11_1)).f3))).setCell ⟨gb128, 8, none⟩ (.slice A127_8 ((rd_T32 l0 (rd l1 x11_1)).f4).length c127_8)).setCell ⟨gb128, 9, none⟩ (.slice A127_9 ((rd_T32 l0 (rd l1 x11_1)).f5).length c127_9)).setCell ⟨gb128, 10, none⟩ (.int .i64 ((rd_T32 l0 (rd l1 x11_1)).f6))).setCell ⟨gb128, 11, none⟩ (.int .i64 ((rd_T32 l0 (rd l1 x11_1)).f7))).heap[gb128]? = some (.cells #[.int .i64 ((rd_T32 l0 (rd l1 x11_1)).f0.f0), .int .i64 ((rd_T32 l0 (rd l1 x11_1)).f0.f1), .string ((rd_T32 l0 (rd l1 x11_1)).f0.f2), .int .i64 ((rd_T32 l0 (rd l1 x11_1)).f1), .int .i64 ((rd_T32 l0 (rd l1 x11_1)).f2.f0), .int .i64 ((rd_T32 l0 (rd l1 x11_1)).f2.f1), .string ((rd_T32 l0 (rd l1 x11_1)).f2.f2), .int .i64 ((rd_T32 l0 (rd l1 x11_1)).f3), .slice A127_8 ((rd_T32 l0 (rd l1 x11_1)).f4).length c127_8, .slice A127_9 ((rd_T32 l0 (rd l1 x11_1)).f5).length c127_9, .int .i64 ((rd_T32 l0 (rd l1 x11_1)).f6), .int .i64 ((rd_T32 l0 (rd l1 x11_1)).f7)] 32 (0, 0))) := ⟨by (with_reducible repeat (first | refine blk_drewN ?_ _ | refine blk_drew ?_ | refine blk_alloc ?_ _)); refine blk_put (cs := #[.int .i64 ((rd_T32 l0 (rd l1 x11_1)).f0.f0), .int .i64 ((rd_T32 l0 (rd l1 x11_1)).f0.f1), .string ((rd_T32 l0 (rd l1 x11_1)).f0.f2), .int .i64 ((rd_T32 l0 (rd l1 x11_1)).f1), .int .i64 ((rd_T32 l0 (rd l1 x11_1)).f2.f0), .int .i64 ((rd_T32 l0 (rd l1 x11_1)).f2.f1), .string ((rd_T32 l0 (rd l1 x11_1)).f2.f2), .int .i64 ((rd_T32 l0 (rd l1 x11_1)).f3), .slice A127_8 ((rd_T32 l0 (rd l1 x11_1)).f4).length c127_8, .slice A127_9 ((rd_T32 l0 (rd l1 x11_1)).f5).length c127_9, .int .i64 ((rd_T32 l0 (rd l1 x11_1)).f6), .int .i64 0]) ?_ 11 _ rfl; (with_reducible repeat (first | refine blk_drewN ?_ _ | refine blk_drew ?_ | refine blk_alloc ?_ _)); refine blk_put (cs := #[.int .i64 ((rd_T32 l0 (rd l1 x11_1)).f0.f0), .int .i64 ((rd_T32 l0 (rd l1 x11_1)).f0.f1), .string ((rd_T32 l0 (rd l1 x11_1)).f0.f2), .int .i64 ((rd_T32 l0 (rd l1 x11_1)).f1), .int .i64 ((rd_T32 l0 (rd l1 x11_1)).f2.f0), .int .i64 ((rd_T32 l0 (rd l1 x11_1)).f2.f1), .string ((rd_T32 l0 (rd l1 x11_1)).f2.f2), .int .i64 ((rd_T32 l0 (rd l1 x11_1)).f3), .slice A127_8 ((rd_T32 l0 (rd l1 x11_1)).f4).length c127_8, .slice A127_9 ((rd_T32 l0 (rd l1 x11_1)).f5).length c127_9, .int .i64 0, .int .i64 0]) ?_ 10 _ rfl; (with_reducible repeat (first | refine blk_drewN ?_ _ | refine blk_drew ?_ | refine blk_alloc ?_ _)); refine blk_put (cs := #[.int .i64 ((rd_T32 l0 (rd l1 x11_1)).f0.f0), .int .i64 ((rd_T32 l0 (rd l1 x11_1)).f0.f1), .string ((rd_T32 l0 (rd l1 x11_1)).f0.f2), .int .i64 ((rd_T32 l0 (rd l1 x11_1)).f1), .int .i64 ((rd_T32 l0 (rd l1 x11_1)).f2.f0), .int .i64 ((rd_T32 l0 (rd l1 x11_1)).f2.f1), .string ((rd_T32 l0 (rd l1 x11_1)).f2.f2), .int .i64 ((rd_T32 l0 (rd l1 x11_1)).f3), .slice A127_8 ((rd_T32 l0 (rd l1 x11_1)).f4).length c127_8, .slice none 0 0, .int .i64 0, .int .i64 0]) ?_ 9 _ rfl; (with_reducible repeat (first | refine blk_drewN ?_ _ | refine blk_drew ?_ | refine blk_alloc ?_ _)); refine blk_put (cs := #[.int .i64 ((rd_T32 l0 (rd l1 x11_1)).f0.f0), .int .i64 ((rd_T32 l0 (rd l1 x11_1)).f0.f1), .string ((rd_T32 l0 (rd l1 x11_1)).f0.f2), .int .i64 ((rd_T32 l0 (rd l1 x11_1)).f1), .int .i64 ((rd_T32 l0 (rd l1 x11_1)).f2.f0), .int .i64 ((rd_T32 l0 (rd l1 x11_1)).f2.f1), .string ((rd_T32 l0 (rd l1 x11_1)).f2.f2), .int .i64 ((rd_T32 l0 (rd l1 x11_1)).f3), .slice none 0 0, .slice none 0 0, .int .i64 0, .int .i64 0]) ?_ 8 _ rfl; (with_reducible repeat (first | refine blk_drewN ?_ _ | refine blk_drew ?_ | refine blk_alloc ?_ _)); refine blk_put (cs := #[.int .i64 ((rd_T32 l0 (rd l1 x11_1)).f0.f0), .int .i64 ((rd_T32 l0 (rd l1 x11_1)).f0.f1), .string ((rd_T32 l0 (rd l1 x11_1)).f0.f2), .int .i64 ((rd_T32 l0 (rd l1 x11_1)).f1), .int .i64 ((rd_T32 l0 (rd l1 x11_1)).f2.f0), .int .i64 ((rd_T32 l0 (rd l1 x11_1)).f2.f1), .string ((rd_T32 l0 (rd l1 x11_1)).f2.f2), .int .i64 0, .slice none 0 0, .slice none 0 0, .int .i64 0, .int .i64 0]) ?_ 7 _ rfl; (with_reducible repeat (first | refine blk_drewN ?_ _ | refine blk_drew ?_ | refine blk_alloc ?_ _)); refine blk_put (cs := #[.int .i64 ((rd_T32 l0 (rd l1 x11_1)).f0.f0), .int .i64 ((rd_T32 l0 (rd l1 x11_1)).f0.f1), .string ((rd_T32 l0 (rd l1 x11_1)).f0.f2), .int .i64 ((rd_T32 l0 (rd l1 x11_1)).f1), .int .i64 ((rd_T32 l0 (rd l1 x11_1)).f2.f0), .int .i64 ((rd_T32 l0 (rd l1 x11_1)).f2.f1), .string (⟨#[]⟩ : ByteArray), .int .i64 0, .slice none 0 0, .slice none 0 0, .int .i64 0, .int .i64 0]) ?_ 6 _ rfl; (with_reducible repeat (first | refine blk_drewN ?_ _ | refine blk_drew ?_ | refine blk_alloc ?_ _)); refine blk_put (cs := #[.int .i64 ((rd_T32 l0 (rd l1 x11_1)).f0.f0), .int .i64 ((rd_T32 l0 (rd l1 x11_1)).f0.f1), .string ((rd_T32 l0 (rd l1 x11_1)).f0.f2), .int .i64 ((rd_T32 l0 (rd l1 x11_1)).f1), .int .i64 ((rd_T32 l0 (rd l1 x11_1)).f2.f0), .int .i64 0, .string (⟨#[]⟩ : ByteArray), .int .i64 0, .slice none 0 0, .slice none 0 0, .int .i64 0, .int .i64 0]) ?_ 5 _ rfl; (with_reducible repeat (first | refine blk_drewN ?_ _ | refine blk_drew ?_ | refine blk_alloc ?_ _)); refine blk_put (cs := #[.int .i64 ((rd_T32 l0 (rd l1 x11_1)).f0.f0), .int .i64 ((rd_T32 l0 (rd l1 x11_1)).f0.f1), .string ((rd_T32 l0 (rd l1 x11_1)).f0.f2), .int .i64 ((rd_T32 l0 (rd l1 x11_1)).f1), .int .i64 0, .int .i64 0, .string (⟨#[]⟩ : ByteArray), .int .i64 0, .slice none 0 0, .slice none 0 0, .int .i64 0, .int .i64 0]) ?_ 4 _ rfl; (with_reducible repeat (first | refine blk_drewN ?_ _ | refine blk_drew ?_ | refine blk_alloc ?_ _)); refine blk_put (cs := #[.int .i64 ((rd_T32 l0 (rd l1 x11_1)).f0.f0), .int .i64 ((rd_T32 l0 (rd l1 x11_1)).f0.f1), .string ((rd_T32 l0 (rd l1 x11_1)).f0.f2), .int .i64 0, .int .i64 0, .int .i64 0, .string (⟨#[]⟩ : ByteArray), .int .i64 0, .slice none 0 0, .slice none 0 0, .int .i64 0, .int .i64 0]) ?_ 3 _ rfl; (with_reducible repeat (first | refine blk_drewN ?_ _ | refine blk_drew ?_ | refine blk_alloc ?_ _)); refine blk_put (cs := #[.int .i64 ((rd_T32 l0 (rd l1 x11_1)).f0.f0), .int .i64 ((rd_T32 l0 (rd l1 x11_1)).f0.f1), .string (⟨#[]⟩ : ByteArray), .int .i64 0, .int .i64 0, .int .i64 0, .string (⟨#[]⟩ : ByteArray), .int .i64 0, .slice none 0 0, .slice none 0 0, .int .i64 0, .int .i64 0]) ?_ 2 _ rfl; (with_reducible repeat (first | refine blk_drewN ?_ _ | refine blk_drew ?_ | refine blk_alloc ?_ _)); refine blk_put (cs := #[.int .i64 ((rd_T32 l0 (rd l1 x11_1)).f0.f0), .int .i64 0, .string (⟨#[]⟩ : ByteArray), .int .i64 0, .int .i64 0, .int .i64 0, .string (⟨#[]⟩ : ByteArray), .int .i64 0, .slice none 0 0, .slice none 0 0, .int .i64 0, .int .i64 0]) ?_ 1 _ rfl; (with_reducible repeat (first | refine blk_drewN ?_ _ | refine blk_drew ?_ | refine blk_alloc ?_ _)); refine blk_put (cs := #[.int .i64 0, .int .i64 0, .string (⟨#[]⟩ : ByteArray), .int .i64 0, .int .i64 0, .int .i64 0, .string (⟨#[]⟩ : ByteArray), .int .i64 0, .slice none 0 0, .slice none 0 0, .int .i64 0, .int .i64 0]) ?_ 0 _ rfl; (with_reducible repeat (first | refine blk_drewN ?_ _ | refine blk_drew ?_ | refine blk_alloc ?_ _)); exact BK128.out⟩
                        have n2_ : Aside0 (Below w.heap.size w ((((((((((((w14.setCell ⟨gb128, 0, none⟩ (.int .i64 ((rd_T32 l0 (rd l1 x11_1)).f0.f0))).setCell ⟨gb128, 1, none⟩ (.int .i64 ((rd_T32 l0 (rd l1 x11_1)).f0.f1))).setCell ⟨gb128, 2, none⟩ (.string ((rd_T32 l0 (rd l1 x11_1)).f0.f2))).setCell ⟨gb128, 3, none⟩ (.int .i64 ((rd_T32 l0 (rd l1 x11_1)).f1))).setCell ⟨gb128, 4, none⟩ (.int .i64 ((rd_T32 l0 (rd l1 x11_1)).f2.f0))).setCell ⟨gb128, 5, none⟩ (.int .i64 ((rd_T32 l0 (rd l1 x11_1)).f2.f1))).setCell ⟨gb128, 6, none⟩ (.string ((rd_T32 l0 (rd l1 x11_1)).f2.f2))).setCell ⟨gb128, 7, none⟩ (.int .i64 ((rd_T32 l0 (rd l1 x11_1)).f3))).setCell ⟨gb128, 8, none⟩ (.slice A127_8 ((rd_T32 l0 (rd l1 x11_1)).f4).length c127_8)).setCell ⟨gb128, 9, none⟩ (.slice A127_9 ((rd_T32 l0 (rd l1 x11_1)).f5).length c127_9)).setCell ⟨gb128, 10, none⟩ (.int .i64 ((rd_T32 l0 (rd l1 x11_1)).f6))).setCell ⟨gb128, 11, none⟩ (.int .i64 ((rd_T32 l0 (rd l1 x11_1)).f7)))) := ⟨by repeat (first | (with_reducible first | exact HB.out | apply below_alloc | apply pw_below_drewN | apply below_drew1 | refine below_set ?_ GE128.out) | exact HB.out)⟩
                        (try clear HO_5)
                        (try clear BK128)
                        (try clear HB)
                        generalize ((((((((((((w14.setCell ⟨gb128, 0, none⟩ (.int .i64 ((rd_T32 l0 (rd l1 x11_1)).f0.f0))).setCell ⟨gb128, 1, none⟩ (.int .i64 ((rd_T32 l0 (rd l1 x11_1)).f0.f1))).setCell ⟨gb128, 2, none⟩ (.string ((rd_T32 l0 (rd l1 x11_1)).f0.f2))).setCell ⟨gb128, 3, none⟩ (.int .i64 ((rd_T32 l0 (rd l1 x11_1)).f1))).setCell ⟨gb128, 4, none⟩ (.int .i64 ((rd_T32 l0 (rd l1 x11_1)).f2.f0))).setCell ⟨gb128, 5, none⟩ (.int .i64 ((rd_T32 l0 (rd l1 x11_1)).f2.f1))).setCell ⟨gb128, 6, none⟩ (.string ((rd_T32 l0 (rd l1 x11_1)).f2.f2))).setCell ⟨gb128, 7, none⟩ (.int .i64 ((rd_T32 l0 (rd l1 x11_1)).f3))).setCell ⟨gb128, 8, none⟩ (.slice A127_8 ((rd_T32 l0 (rd l1 x11_1)).f4).length c127_8)).setCell ⟨gb128, 9, none⟩ (.slice A127_9 ((rd_T32 l0 (rd l1 x11_1)).f5).length c127_9)).setCell ⟨gb128, 10, none⟩ (.int .i64 ((rd_T32 l0 (rd l1 x11_1)).f6))).setCell ⟨gb128, 11, none⟩ (.int .i64 ((rd_T32 l0 (rd l1 x11_1)).f7))) = w16 at n0_ n1_ n2_ ⊢
                        have HO_5 := n0_
                        have BK128 := n1_
                        have HB := n2_
                        clear n0_ n1_ n2_
                        have n0_ := Aside0.mk (Kd.S_drew HO_5.out)
                        have n1_ := Aside0.mk (blk_drew BK128.out)
                        have n2_ := Aside0.mk (below_drew1 HB.out)
                        clear HO_5
                        clear BK128
                        clear HB
                        have HO_5 := n0_
                        have BK128 := n1_
                        have HB := n2_
                        clear n0_ n1_ n2_
                        refine start_ (n := 10) (S := fun w' => w'.cell? ⟨gb128, 0, none⟩ = some (.int .i64 ((rd_T32 l0 (rd l1 x11_1)).f0.f0)) ∧ w'.cell? ⟨gb128, 1, none⟩ = some (.int .i64 ((rd_T32 l0 (rd l1 x11_1)).f0.f1)) ∧ w'.cell? ⟨gb128, 2, none⟩ = some (.string ((rd_T32 l0 (rd l1 x11_1)).f0.f2)) ∧ w'.cell? ⟨gb128, 3, none⟩ = some (.int .i64 ((rd_T32 l0 (rd l1 x11_1)).f1)) ∧ w'.cell? ⟨gb128, 4, none⟩ = some (.int .i64 ((rd_T32 l0 (rd l1 x11_1)).f2.f0)) ∧ w'.cell? ⟨gb128, 5, none⟩ = some (.int .i64 ((rd_T32 l0 (rd l1 x11_1)).f2.f1)) ∧ w'.cell? ⟨gb128, 6, none⟩ = some (.string ((rd_T32 l0 (rd l1 x11_1)).f2.f2)) ∧ w'.cell? ⟨gb128, 7, none⟩ = some (.int .i64 ((rd_T32 l0 (rd l1 x11_1)).f3)) ∧ w'.cell? ⟨gb128, 8, none⟩ = some (.slice A127_8 ((rd_T32 l0 (rd l1 x11_1)).f4).length c127_8) ∧ w'.cell? ⟨gb128, 9, none⟩ = some (.slice A127_9 ((rd_T32 l0 (rd l1 x11_1)).f5).length c127_9) ∧ w'.cell? ⟨gb128, 10, none⟩ = some (.int .i64 ((rd_T32 l0 (rd l1 x11_1)).f6)) ∧ w'.cell? ⟨gb128, 11, none⟩ = some (.int .i64 ((rd_T32 l0 (rd l1 x11_1)).f7))) (ds := [7, 9]) #[false, false, false, false, false, false, false, false, false, false] (by kernel_rfl) rfl rfl ⟨(blk_cell BK128.out 0).trans rfl, (blk_cell BK128.out 1).trans rfl, (blk_cell BK128.out 2).trans rfl, (blk_cell BK128.out 3).trans rfl, (blk_cell BK128.out 4).trans rfl, (blk_cell BK128.out 5).trans rfl, (blk_cell BK128.out 6).trans rfl, (blk_cell BK128.out 7).trans rfl, (blk_cell BK128.out 8).trans rfl, (blk_cell BK128.out 9).trans rfl, (blk_cell BK128.out 10).trans rfl, (blk_cell BK128.out 11).trans rfl⟩ (fun hHeld => ?_); refine with_tabW part_Pick.tab7 part_Pick.bits7 (fun HT_ HW_ => ?_)
                        generalize w16.drew = w17 at HO_5 BK128 HB hHeld ⊢
                        refine pure_ (i := 0) (N := some 27) (v := ?_) (a' := ?_) #[true, false, false, false, false, false, false, false, false, false] rfl rfl (any_of HT_.out (by kernel_rfl)) (fun _ _ _ h => h) (Or.inl ⟨by rfl, ?_⟩) ?_ ?_
                        rotate_left
                        · intro w'
                          go_simp
                          with_reducible rfl
                        rotate_left
                        · simp only [Act.put, List.setIfInBounds_toArray, List.set_cons_zero, List.set_cons_succ, i64_w, i32_w]
                          rfl
                        refine pure_ (i := 3) (N := some 30) (v := ?_) (a' := ?_) #[true, false, false, true, false, false, false, false, false, false] rfl rfl (any_of HT_.out (by kernel_rfl)) (fun _ _ _ h => h) (Or.inl ⟨by rfl, ?_⟩) ?_ ?_
                        rotate_left
                        · intro w'
                          go_simp
                          with_reducible rfl
                        rotate_left
                        · simp only [Act.put, List.setIfInBounds_toArray, List.set_cons_zero, List.set_cons_succ, i64_w, i32_w]
                          rfl
                        refine take_ (i := 1) (N := some 28) (v := ?_) (a' := ?_) #[true, true, false, true, false, false, false, false, false, false] rfl rfl (take_ofW HT_.out HW_.out (by kernel_rfl)) (fun _ _ _ h => h) (Or.inl ⟨by rfl, ?_⟩) hHeld ?_ ?_
                        rotate_left
                        · rintro w' ⟨s0, s1, s2, s3, s4, s5, s6, s7, s8, s9, s10, s11⟩
                          go_simp
                          with_reducible rfl
                        rotate_left
                        · simp only [Act.put, List.setIfInBounds_toArray, List.set_cons_zero, List.set_cons_succ, i64_w, i32_w]
                          rfl
                        refine take_ (i := 4) (N := some 31) (v := ?_) (a' := ?_) #[true, true, false, true, true, false, false, false, false, false] rfl rfl (take_ofW HT_.out HW_.out (by kernel_rfl)) (fun _ _ _ h => h) (Or.inl ⟨by rfl, ?_⟩) hHeld ?_ ?_
                        rotate_left
                        · rintro w' ⟨s0, s1, s2, s3, s4, s5, s6, s7, s8, s9, s10, s11⟩
                          go_simp
                          with_reducible rfl
                        rotate_left
                        · simp only [Act.put, List.setIfInBounds_toArray, List.set_cons_zero, List.set_cons_succ, i64_w, i32_w]
                          rfl
                        refine one_ (i := 2) (N := some 29) #[true, true, true, true, true, false, false, false, false, false] rfl rfl (one_of HT_.out (by kernel_rfl)) (by decide) (fun K hK => ?_)
                        refine goes_ Try.func10 (by kernel_rfl) rfl #[.slice A127_8 ((rd_T32 l0 (rd l1 x11_1)).f4).length c127_8] (by rfl) rfl rfl (by (try simp only [List.map_toArray, List.map_cons, List.map_nil]); first | done | rfl | (simp only [List.length_drop, List.length_take]; rfl)) ?_
                        with_reducible refine (api_Value.calls _ _ ((rd_T32 l0 (rd l1 x11_1)).f4) t129 _ ?side1 ?side2 A11.out).mono ?_
                        (case side1 => repeat (first | exact (Kd.C_below HR127_8.out HB.out) | (with_reducible refine Kd.C_alloc ?_ _) | (with_reducible refine Kd.C_drewN ?_ _) | (with_reducible refine Kd.C_drew ?_)))
                        (case side2 => exact HC127_8.out)
                        rintro e w18 ⟨v130, rfl, ho0, hb⟩
                        refine ⟨_, rfl, ?_⟩
                        have n0_ := Aside0.mk (Kd.S_elder' (by (with_reducible repeat (first | apply Kd.S_alloc | apply Kd.S_drewN | apply Kd.S_drew)); exact HO_5.out) (Kd.R_base ho0) hb)
                        have n1_ := Aside0.mk (Kd.R_lower ho0 (below_size (by repeat (first | (with_reducible first | exact HB.out | apply below_alloc | apply pw_below_drewN | apply below_drew1 | refine below_set ?_ GE128.out) | exact HB.out))))
                        have n2_ := Aside0.mk (blk_below (g := gb128) (o := .cells #[.int .i64 ((rd_T32 l0 (rd l1 x11_1)).f0.f0), .int .i64 ((rd_T32 l0 (rd l1 x11_1)).f0.f1), .string ((rd_T32 l0 (rd l1 x11_1)).f0.f2), .int .i64 ((rd_T32 l0 (rd l1 x11_1)).f1), .int .i64 ((rd_T32 l0 (rd l1 x11_1)).f2.f0), .int .i64 ((rd_T32 l0 (rd l1 x11_1)).f2.f1), .string ((rd_T32 l0 (rd l1 x11_1)).f2.f2), .int .i64 ((rd_T32 l0 (rd l1 x11_1)).f3), .slice A127_8 ((rd_T32 l0 (rd l1 x11_1)).f4).length c127_8, .slice A127_9 ((rd_T32 l0 (rd l1 x11_1)).f5).length c127_9, .int .i64 ((rd_T32 l0 (rd l1 x11_1)).f6), .int .i64 ((rd_T32 l0 (rd l1 x11_1)).f7)] 32 (0, 0)) (by (with_reducible repeat (first | refine blk_drewN ?_ _ | refine blk_drew ?_ | refine blk_alloc ?_ _)); exact BK128.out) hb)
                        have n3_ := Aside0.mk (below_step (by repeat (first | (with_reducible first | exact HB.out | apply below_alloc | apply pw_below_drewN | apply below_drew1 | refine below_set ?_ GE128.out) | exact HB.out)) hb)
                        clear HO_5
                        clear BK128
                        clear HB
                        have HO_5 := n0_
                        have HO131 := n1_
                        have BK128 := n2_
                        have HB := n3_
                        clear n0_ n1_ n2_ n3_
                        (try clear hb)
                        (try clear hb2)
                        (try clear hk)
                        (try clear hi)
                        (try clear ho0)
                        refine hK.out _ _ ⟨(blk_cell BK128.out 0).trans rfl, (blk_cell BK128.out 1).trans rfl, (blk_cell BK128.out 2).trans rfl, (blk_cell BK128.out 3).trans rfl, (blk_cell BK128.out 4).trans rfl, (blk_cell BK128.out 5).trans rfl, (blk_cell BK128.out 6).trans rfl, (blk_cell BK128.out 7).trans rfl, (blk_cell BK128.out 8).trans rfl, (blk_cell BK128.out 9).trans rfl, (blk_cell BK128.out 10).trans rfl, (blk_cell BK128.out 11).trans rfl⟩ (fun hHeld => ?_)
                        clear hK K
                        refine norm_ (a' := ?_) ?_ ?_
                        rotate_left
                        · show Act.put _ (some 29) _ = _
                          simp only [Act.put, List.setIfInBounds_toArray, List.set_cons_zero, List.set_cons_succ, i64_w, i32_w]
                          rfl
                        refine pure_ (i := 6) (N := some 33) (v := ?_) (a' := ?_) #[true, true, true, true, true, false, true, false, false, false] rfl rfl (any_of HT_.out (by kernel_rfl)) (fun _ _ _ h => h) (Or.inl ⟨by rfl, ?_⟩) ?_ ?_
                        rotate_left
                        · intro w'
                          go_simp
                          with_reducible rfl
                        rotate_left
                        · simp only [Act.put, List.setIfInBounds_toArray, List.set_cons_zero, List.set_cons_succ, i64_w, i32_w]
                          rfl
                        refine one_ (i := 5) (N := some 32) #[true, true, true, true, true, true, true, false, false, false] rfl rfl (one_of HT_.out (by kernel_rfl)) (by decide) (fun K hK => ?_)
                        refine goes_ Try.func10 (by kernel_rfl) rfl #[.slice A127_9 ((rd_T32 l0 (rd l1 x11_1)).f5).length c127_9] (by rfl) rfl rfl (by (try simp only [List.map_toArray, List.map_cons, List.map_nil]); first | done | rfl | (simp only [List.length_drop, List.length_take]; rfl)) ?_
                        with_reducible refine (api_Value.calls _ _ ((rd_T32 l0 (rd l1 x11_1)).f5) t132 _ ?side1 ?side2 A12.out).mono ?_
                        (case side1 => repeat (first | exact (Kd.C_below HR127_9.out HB.out) | (with_reducible refine Kd.C_alloc ?_ _) | (with_reducible refine Kd.C_drewN ?_ _) | (with_reducible refine Kd.C_drew ?_)))
                        (case side2 => exact HC127_9.out)
                        rintro e w19 ⟨v133, rfl, ho0, hb⟩
                        refine ⟨_, rfl, ?_⟩
                        have n0_ := Aside0.mk (Kd.S_elder' (by (with_reducible repeat (first | apply Kd.S_alloc | apply Kd.S_drewN | apply Kd.S_drew)); exact HO_5.out) (Kd.R_base ho0) hb)
                        have n1_ := Aside0.mk (Kd.R_elder' (by (with_reducible repeat (first | apply Kd.R_alloc | apply Kd.R_drewN | apply Kd.R_drew)); exact HO131.out) (Kd.R_base ho0) hb)
                        have n2_ := Aside0.mk (Kd.R_lower (Kd.R_new' ho0 (Kd.R_lt (by (with_reducible repeat (first | apply Kd.R_alloc | apply Kd.R_drewN | apply Kd.R_drew)); exact HO131.out))) (below_size (by repeat (first | (with_reducible first | exact HB.out | apply below_alloc | apply pw_below_drewN | apply below_drew1 | refine below_set ?_ GE128.out) | exact HB.out))))
                        have n3_ := Aside0.mk (blk_below (g := gb128) (o := .cells #[.int .i64 ((rd_T32 l0 (rd l1 x11_1)).f0.f0), .int .i64 ((rd_T32 l0 (rd l1 x11_1)).f0.f1), .string ((rd_T32 l0 (rd l1 x11_1)).f0.f2), .int .i64 ((rd_T32 l0 (rd l1 x11_1)).f1), .int .i64 ((rd_T32 l0 (rd l1 x11_1)).f2.f0), .int .i64 ((rd_T32 l0 (rd l1 x11_1)).f2.f1), .string ((rd_T32 l0 (rd l1 x11_1)).f2.f2), .int .i64 ((rd_T32 l0 (rd l1 x11_1)).f3), .slice A127_8 ((rd_T32 l0 (rd l1 x11_1)).f4).length c127_8, .slice A127_9 ((rd_T32 l0 (rd l1 x11_1)).f5).length c127_9, .int .i64 ((rd_T32 l0 (rd l1 x11_1)).f6), .int .i64 ((rd_T32 l0 (rd l1 x11_1)).f7)] 32 (0, 0)) (by (with_reducible repeat (first | refine blk_drewN ?_ _ | refine blk_drew ?_ | refine blk_alloc ?_ _)); exact BK128.out) hb)
                        have n4_ := Aside0.mk (below_step (by repeat (first | (with_reducible first | exact HB.out | apply below_alloc | apply pw_below_drewN | apply below_drew1 | refine below_set ?_ GE128.out) | exact HB.out)) hb)
                        clear HO_5
                        clear HO131
                        clear BK128
                        clear HB
                        have HO_5 := n0_
                        have HO131 := n1_
                        have HO134 := n2_
                        have BK128 := n3_
                        have HB := n4_
                        clear n0_ n1_ n2_ n3_ n4_
                        (try clear hb)
                        (try clear hb2)
                        (try clear hk)
                        (try clear hi)
                        (try clear ho0)
                        obtain ⟨Ao20, co20, eo20⟩ := Kd.R_slice HO131.out
                        (first | subst eo20 | (injection eo20 with f1_ f2_ f3_; have f4_ := f1_.symm; have f5_ := f3_.symm; clear f1_ f2_ f3_; subst f4_; subst f5_))
                        obtain ⟨Ao22, co22, eo22⟩ := Kd.R_slice HO134.out
                        (first | subst eo22 | (injection eo22 with f1_ f2_ f3_; have f4_ := f1_.symm; have f5_ := f3_.symm; clear f1_ f2_ f3_; subst f4_; subst f5_))
                        refine hK.out _ _ ⟨(blk_cell BK128.out 0).trans rfl, (blk_cell BK128.out 1).trans rfl, (blk_cell BK128.out 2).trans rfl, (blk_cell BK128.out 3).trans rfl, (blk_cell BK128.out 4).trans rfl, (blk_cell BK128.out 5).trans rfl, (blk_cell BK128.out 6).trans rfl, (blk_cell BK128.out 7).trans rfl, (blk_cell BK128.out 8).trans rfl, (blk_cell BK128.out 9).trans rfl, (blk_cell BK128.out 10).trans rfl, (blk_cell BK128.out 11).trans rfl⟩ (fun hHeld => ?_)
                        clear hK K
                        refine norm_ (a' := ?_) ?_ ?_
                        rotate_left
                        · show Act.put _ (some 32) _ = _
                          simp only [Act.put, List.setIfInBounds_toArray, List.set_cons_zero, List.set_cons_succ, i64_w, i32_w]
                          rfl
                        refine last_ (i := 7) (N := none) #[true, true, true, true, true, true, true, true, false, false] rfl rfl (one_of HT_.out (by kernel_rfl)) (by decide) (fun K hK => ?_)
                        have hs21 : w19.cell? ⟨gb128, 8, none⟩ = some (.slice A127_8 ((rd_T32 l0 (rd l1 x11_1)).f4).length c127_8) := (blk_cell BK128.out 8).trans rfl
                        have hfs21 := blk_frozen BK128.out 8
                        refine skip_ (w1 := ?_) (by rfl) rfl ?_ ?_
                        rotate_left
                        · go_simp
                          rfl
                        refine hK.out _ _ ?_
                        clear hK K
                        refine pure_ (i := 8) (N := some 34) (v := ?_) (a' := ?_) #[true, true, true, true, true, true, true, true, true, false] rfl rfl (any_of HT_.out (by kernel_rfl)) (fun _ _ _ h => h) (Or.inl ⟨by rfl, ?_⟩) ?_ ?_
                        rotate_left
                        · intro w'
                          go_simp
                          with_reducible rfl
                        rotate_left
                        · simp only [Act.put, List.setIfInBounds_toArray, List.set_cons_zero, List.set_cons_succ, i64_w, i32_w]
                          rfl
                        refine last_ (i := 9) (N := none) #[true, true, true, true, true, true, true, true, true, true] rfl rfl (one_of HT_.out (by kernel_rfl)) (by decide) (fun K hK => ?_)
                        have hs23 : w19.cell? ⟨gb128, 9, none⟩ = some (.slice A127_9 ((rd_T32 l0 (rd l1 x11_1)).f5).length c127_9) := (blk_cell BK128.out 9).trans rfl
                        have hfs23 := blk_frozen BK128.out 9
                        refine skip_ (w1 := ?_) (by rfl) rfl ?_ ?_
                        rotate_left
                        · go_simp
                          rfl
                        refine hK.out _ _ ?_
                        clear hK K
                        refine done_ (done_of HT_.out (by kernel_rfl)) ?_
                        have n0_ : Aside0 (Kd.S k32 32 ((w19.setCell ⟨gb128, 8, none⟩ (.slice Ao20 t129.length co20)).setCell ⟨gb128, 9, none⟩ (.slice Ao22 t132.length co22)) w.heap.size (fun k_ => some k_ ≠ (.slice Ao20 t129.length co20 : Value).ownBlock ∧ some k_ ≠ (.slice Ao22 t132.length co22 : Value).ownBlock ∧ k_ ≠ gb128) u5 x5_1) := ⟨by (with_reducible repeat (first | apply Kd.S_alloc | apply Kd.S_drewN | apply Kd.S_drew)); exact Kd.S_mono (Kd.S_far (p := ⟨gb128, 9, none⟩) (Kd.S_far (p := ⟨gb128, 8, none⟩) (Kd.S_mono HO_5.out (fun k_ hk => (⟨hk, hk.1.1⟩ : _ ∧ k_ ≠ gb128))) (fun _ hk => hk.2) (.slice Ao20 t129.length co20)) (fun _ hk => hk.2) (.slice Ao22 t132.length co22)) (fun _ hk => ⟨hk.1.1.2, ⟨hk.1.2, hk.1.1.1⟩⟩)⟩
                        have n1_ : Aside0 (Kd.R k29 29 ((w19.setCell ⟨gb128, 8, none⟩ (.slice Ao20 t129.length co20)).setCell ⟨gb128, 9, none⟩ (.slice Ao22 t132.length co22)) w.heap.size (fun k_ => some k_ ≠ (.slice Ao22 t132.length co22 : Value).ownBlock) (.slice Ao20 t129.length co20) t129) := ⟨by (with_reducible repeat (first | apply Kd.R_alloc | apply Kd.R_drewN | apply Kd.R_drew)); exact Kd.R_mono (Kd.R_far (p := ⟨gb128, 9, none⟩) (Kd.R_far (p := ⟨gb128, 8, none⟩) (Kd.R_types HO131.out BK128.out (by decide)) (fun _ hk => hk.2) (.slice Ao20 t129.length co20)) (fun _ hk => hk.2) (.slice Ao22 t132.length co22)) (fun _ hk => hk.1.2)⟩
                        have n2_ : Aside0 (Kd.R k29 29 ((w19.setCell ⟨gb128, 8, none⟩ (.slice Ao20 t129.length co20)).setCell ⟨gb128, 9, none⟩ (.slice Ao22 t132.length co22)) w.heap.size (fun k_ => some k_ ≠ (.slice Ao20 t129.length co20 : Value).ownBlock) (.slice Ao22 t132.length co22) t132) := ⟨by (with_reducible repeat (first | apply Kd.R_alloc | apply Kd.R_drewN | apply Kd.R_drew)); exact Kd.R_mono (Kd.R_far (p := ⟨gb128, 9, none⟩) (Kd.R_far (p := ⟨gb128, 8, none⟩) (Kd.R_types HO134.out BK128.out (by decide)) (fun _ hk => hk.2) (.slice Ao20 t129.length co20)) (fun _ hk => hk.2) (.slice Ao22 t132.length co22)) (fun _ hk => hk.1.2)⟩
                        have n3_ : Aside0 (((w19.setCell ⟨gb128, 8, none⟩ (.slice Ao20 t129.length co20)).setCell ⟨gb128, 9, none⟩ (.slice Ao22 t132.length co22)).heap[gb128]? = some (.cells #[.int .i64 ((rd_T32 l0 (rd l1 x11_1)).f0.f0), .int .i64 ((rd_T32 l0 (rd l1 x11_1)).f0.f1), .string ((rd_T32 l0 (rd l1 x11_1)).f0.f2), .int .i64 ((rd_T32 l0 (rd l1 x11_1)).f1), .int .i64 ((rd_T32 l0 (rd l1 x11_1)).f2.f0), .int .i64 ((rd_T32 l0 (rd l1 x11_1)).f2.f1), .string ((rd_T32 l0 (rd l1 x11_1)).f2.f2), .int .i64 ((rd_T32 l0 (rd l1 x11_1)).f3), .slice Ao20 t129.length co20, .slice Ao22 t132.length co22, .int .i64 ((rd_T32 l0 (rd l1 x11_1)).f6), .int .i64 ((rd_T32 l0 (rd l1 x11_1)).f7)] 32 (0, 0))) := ⟨by (with_reducible repeat (first | refine blk_drewN ?_ _ | refine blk_drew ?_ | refine blk_alloc ?_ _)); refine blk_put (cs := #[.int .i64 ((rd_T32 l0 (rd l1 x11_1)).f0.f0), .int .i64 ((rd_T32 l0 (rd l1 x11_1)).f0.f1), .string ((rd_T32 l0 (rd l1 x11_1)).f0.f2), .int .i64 ((rd_T32 l0 (rd l1 x11_1)).f1), .int .i64 ((rd_T32 l0 (rd l1 x11_1)).f2.f0), .int .i64 ((rd_T32 l0 (rd l1 x11_1)).f2.f1), .string ((rd_T32 l0 (rd l1 x11_1)).f2.f2), .int .i64 ((rd_T32 l0 (rd l1 x11_1)).f3), .slice Ao20 t129.length co20, .slice A127_9 ((rd_T32 l0 (rd l1 x11_1)).f5).length c127_9, .int .i64 ((rd_T32 l0 (rd l1 x11_1)).f6), .int .i64 ((rd_T32 l0 (rd l1 x11_1)).f7)]) ?_ 9 _ rfl; (with_reducible repeat (first | refine blk_drewN ?_ _ | refine blk_drew ?_ | refine blk_alloc ?_ _)); refine blk_put (cs := #[.int .i64 ((rd_T32 l0 (rd l1 x11_1)).f0.f0), .int .i64 ((rd_T32 l0 (rd l1 x11_1)).f0.f1), .string ((rd_T32 l0 (rd l1 x11_1)).f0.f2), .int .i64 ((rd_T32 l0 (rd l1 x11_1)).f1), .int .i64 ((rd_T32 l0 (rd l1 x11_1)).f2.f0), .int .i64 ((rd_T32 l0 (rd l1 x11_1)).f2.f1), .string ((rd_T32 l0 (rd l1 x11_1)).f2.f2), .int .i64 ((rd_T32 l0 (rd l1 x11_1)).f3), .slice A127_8 ((rd_T32 l0 (rd l1 x11_1)).f4).length c127_8, .slice A127_9 ((rd_T32 l0 (rd l1 x11_1)).f5).length c127_9, .int .i64 ((rd_T32 l0 (rd l1 x11_1)).f6), .int .i64 ((rd_T32 l0 (rd l1 x11_1)).f7)]) ?_ 8 _ rfl; (with_reducible repeat (first | refine blk_drewN ?_ _ | refine blk_drew ?_ | refine blk_alloc ?_ _)); exact BK128.out⟩
                        have n4_ : Aside0 (Below w.heap.size w ((w19.setCell ⟨gb128, 8, none⟩ (.slice Ao20 t129.length co20)).setCell ⟨gb128, 9, none⟩ (.slice Ao22 t132.length co22))) := ⟨by repeat (first | (with_reducible first | exact HB.out | apply below_alloc | apply pw_below_drewN | apply below_drew1 | refine below_set ?_ GE128.out) | exact HB.out)⟩
                        (try clear HO_5)
                        (try clear HO131)
                        (try clear HO134)
                        (try clear BK128)
                        (try clear HB)
                        generalize ((w19.setCell ⟨gb128, 8, none⟩ (.slice Ao20 t129.length co20)).setCell ⟨gb128, 9, none⟩ (.slice Ao22 t132.length co22)) = w24 at n0_ n1_ n2_ n3_ n4_ ⊢
                        have HO_5 := n0_
                        have HO131 := n1_
                        have HO134 := n2_
                        have BK128 := n3_
                        have HB := n4_
                        clear n0_ n1_ n2_ n3_ n4_
                        have hcz25_0 : w24.cell? ⟨gb128, 0, none⟩ = some (.int .i64 ((rd_T32 l0 (rd l1 x11_1)).f0.f0)) := (blk_cell BK128.out 0).trans rfl
                        have hcz25_1 : w24.cell? ⟨gb128, 1, none⟩ = some (.int .i64 ((rd_T32 l0 (rd l1 x11_1)).f0.f1)) := (blk_cell BK128.out 1).trans rfl
                        have hcz25_2 : w24.cell? ⟨gb128, 2, none⟩ = some (.string ((rd_T32 l0 (rd l1 x11_1)).f0.f2)) := (blk_cell BK128.out 2).trans rfl
                        have hcz25_3 : w24.cell? ⟨gb128, 3, none⟩ = some (.int .i64 ((rd_T32 l0 (rd l1 x11_1)).f1)) := (blk_cell BK128.out 3).trans rfl
                        have hcz25_4 : w24.cell? ⟨gb128, 4, none⟩ = some (.int .i64 ((rd_T32 l0 (rd l1 x11_1)).f2.f0)) := (blk_cell BK128.out 4).trans rfl
                        have hcz25_5 : w24.cell? ⟨gb128, 5, none⟩ = some (.int .i64 ((rd_T32 l0 (rd l1 x11_1)).f2.f1)) := (blk_cell BK128.out 5).trans rfl
                        have hcz25_6 : w24.cell? ⟨gb128, 6, none⟩ = some (.string ((rd_T32 l0 (rd l1 x11_1)).f2.f2)) := (blk_cell BK128.out 6).trans rfl
                        have hcz25_7 : w24.cell? ⟨gb128, 7, none⟩ = some (.int .i64 ((rd_T32 l0 (rd l1 x11_1)).f3)) := (blk_cell BK128.out 7).trans rfl
                        have hcz25_8 : w24.cell? ⟨gb128, 8, none⟩ = some (.slice Ao20 t129.length co20) := (blk_cell BK128.out 8).trans rfl
                        have hcz25_9 : w24.cell? ⟨gb128, 9, none⟩ = some (.slice Ao22 t132.length co22) := (blk_cell BK128.out 9).trans rfl
                        have hcz25_10 : w24.cell? ⟨gb128, 10, none⟩ = some (.int .i64 ((rd_T32 l0 (rd l1 x11_1)).f6)) := (blk_cell BK128.out 10).trans rfl
                        have hcz25_11 : w24.cell? ⟨gb128, 11, none⟩ = some (.int .i64 ((rd_T32 l0 (rd l1 x11_1)).f7)) := (blk_cell BK128.out 11).trans rfl
                        have hfz25_0 := blk_frozen BK128.out 0
                        have hfz25_1 := blk_frozen BK128.out 1
                        have hfz25_2 := blk_frozen BK128.out 2
                        have hfz25_3 := blk_frozen BK128.out 3
                        have hfz25_4 := blk_frozen BK128.out 4
                        have hfz25_5 := blk_frozen BK128.out 5
                        have hfz25_6 := blk_frozen BK128.out 6
                        have hfz25_7 := blk_frozen BK128.out 7
                        have hfz25_8 := blk_frozen BK128.out 8
                        have hfz25_9 := blk_frozen BK128.out 9
                        have hfz25_10 := blk_frozen BK128.out 10
                        have hfz25_11 := blk_frozen BK128.out 11
                        try go_wp2_with (first | ((with_reducible refine gate_builtin (b := .append) (xs := #[.tmp 35, .tmp 37]) rfl ?_); (try (refine gate_guard (by rfl) ?_; dsimp only)); at_builtin; refine Kd.S_append k32 (w0 := w) w.heap.size rfl (.tmp 35) (.tmp 37) 22 32 (.agg #[(.int .i64 0), (.int .i64 0), (.string ⟨#[]⟩), (.int .i64 0), (.int .i64 0), (.int .i64 0), (.string ⟨#[]⟩), (.int .i64 0), (.slice none 0 0), (.slice none 0 0), (.int .i64 0), (.int .i64 0)]) 144 rfl Try.underlying22 info32 rfl (by decide) (by omega) u5 x5_1 (⟨(⟨(rd_T32 l0 (rd l1 x11_1)).f0.f0, (rd_T32 l0 (rd l1 x11_1)).f0.f1, (rd_T32 l0 (rd l1 x11_1)).f0.f2⟩ : S29), (rd_T32 l0 (rd l1 x11_1)).f1, (⟨(rd_T32 l0 (rd l1 x11_1)).f2.f0, (rd_T32 l0 (rd l1 x11_1)).f2.f1, (rd_T32 l0 (rd l1 x11_1)).f2.f2⟩ : S29), (rd_T32 l0 (rd l1 x11_1)).f3, t129, t132, (rd_T32 l0 (rd l1 x11_1)).f6, (rd_T32 l0 (rd l1 x11_1)).f7⟩ : S32) [.int .i64 ((rd_T32 l0 (rd l1 x11_1)).f0.f0), .int .i64 ((rd_T32 l0 (rd l1 x11_1)).f0.f1), .string ((rd_T32 l0 (rd l1 x11_1)).f0.f2), .int .i64 ((rd_T32 l0 (rd l1 x11_1)).f1), .int .i64 ((rd_T32 l0 (rd l1 x11_1)).f2.f0), .int .i64 ((rd_T32 l0 (rd l1 x11_1)).f2.f1), .string ((rd_T32 l0 (rd l1 x11_1)).f2.f2), .int .i64 ((rd_T32 l0 (rd l1 x11_1)).f3), .slice Ao20 t129.length co20, .slice Ao22 t132.length co22, .int .i64 ((rd_T32 l0 (rd l1 x11_1)).f6), .int .i64 ((rd_T32 l0 (rd l1 x11_1)).f7)] (fun k_ => k_ ≠ gb128) (fun k_ => some k_ = (.slice Ao20 t129.length co20 : Value).ownBlock ∨ some k_ = (.slice Ao22 t132.length co22 : Value).ownBlock) rfl rfl ?aP (fun k_ hk_ => hk_.elim (fun h_ => ((Kd.R_mono (ok' := fun k_ => ((fun k_ => k_ ≠ gb128)) k_ ∧ some k_ ≠ (u5 : Value).ownBlock) (Kd.R_types (Kd.R_apart' (HO131.out) (Kd.S_typed HO_5.out) (by decide)) BK128.out (by decide)) (fun k_ hk => ⟨hk.2, hk.1.2⟩))).1 k_ h_.symm) (fun h_ => ((Kd.R_mono (ok' := fun k_ => ((fun k_ => k_ ≠ gb128)) k_ ∧ some k_ ≠ (u5 : Value).ownBlock) (Kd.R_types (Kd.R_apart' (HO134.out) (Kd.S_typed HO_5.out) (by decide)) BK128.out (by decide)) (fun k_ hk => ⟨hk.2, hk.1.2⟩))).1 k_ h_.symm)) ?aF ?aO ?aB ?aS ?aL ?_; (case aP => exact k32_mkM _ _ _ (⟨(⟨(rd_T32 l0 (rd l1 x11_1)).f0.f0, (rd_T32 l0 (rd l1 x11_1)).f0.f1, (rd_T32 l0 (rd l1 x11_1)).f0.f2⟩ : S29), (rd_T32 l0 (rd l1 x11_1)).f1, (⟨(rd_T32 l0 (rd l1 x11_1)).f2.f0, (rd_T32 l0 (rd l1 x11_1)).f2.f1, (rd_T32 l0 (rd l1 x11_1)).f2.f2⟩ : S29), (rd_T32 l0 (rd l1 x11_1)).f3, t129, t132, (rd_T32 l0 (rd l1 x11_1)).f6, (rd_T32 l0 (rd l1 x11_1)).f7⟩ : S32) (Kd.R_mono (Kd.R_tight rfl (Kd.R_mono (ok' := fun k_ => ((fun k_ => k_ ≠ gb128)) k_ ∧ some k_ ≠ (u5 : Value).ownBlock) (Kd.R_types (Kd.R_apart' (HO131.out) (Kd.S_typed HO_5.out) (by decide)) BK128.out (by decide)) (fun k_ hk => ⟨hk.2, hk.1.2⟩))) (fun _ h_ => Or.inl h_)) (Kd.R_mono (Kd.R_tight rfl (Kd.R_mono (ok' := fun k_ => ((fun k_ => k_ ≠ gb128)) k_ ∧ some k_ ≠ (u5 : Value).ownBlock) (Kd.R_types (Kd.R_apart' (HO134.out) (Kd.S_typed HO_5.out) (by decide)) BK128.out (by decide)) (fun k_ hk => ⟨hk.2, hk.1.2⟩))) (fun _ h_ => Or.inr (h_)))); (case aB => exact (by repeat (first | (with_reducible first | exact HB.out | apply below_alloc | apply pw_below_drewN | apply below_drew1 | refine below_set ?_ GE128.out) | exact HB.out))); (case aF => exact (fun k_ hk => Kd.freshB (g := gb128) (o := .cells #[.int .i64 ((rd_T32 l0 (rd l1 x11_1)).f0.f0), .int .i64 ((rd_T32 l0 (rd l1 x11_1)).f0.f1), .string ((rd_T32 l0 (rd l1 x11_1)).f0.f2), .int .i64 ((rd_T32 l0 (rd l1 x11_1)).f1), .int .i64 ((rd_T32 l0 (rd l1 x11_1)).f2.f0), .int .i64 ((rd_T32 l0 (rd l1 x11_1)).f2.f1), .string ((rd_T32 l0 (rd l1 x11_1)).f2.f2), .int .i64 ((rd_T32 l0 (rd l1 x11_1)).f3), .slice Ao20 t129.length co20, .slice Ao22 t132.length co22, .int .i64 ((rd_T32 l0 (rd l1 x11_1)).f6), .int .i64 ((rd_T32 l0 (rd l1 x11_1)).f7)] 32 (0, 0)) (by (with_reducible repeat (first | refine blk_drewN ?_ _ | refine blk_drew ?_ | refine blk_alloc ?_ _)); exact BK128.out) k_ hk)); (case aO => exact (by (with_reducible repeat (first | apply Kd.S_alloc | apply Kd.S_drewN | apply Kd.S_drew)); exact Kd.S_mono HO_5.out (fun k_ hk => ⟨hk.2.2, fun e_ => e_.elim (fun h_ => hk.1 h_) (fun h_ => hk.2.1 h_)⟩))); (case aS => exact (below_size (by repeat (first | (with_reducible first | exact HB.out | apply below_alloc | apply pw_below_drewN | apply below_drew1 | refine below_set ?_ GE128.out) | exact HB.out)))); (case aL => have := LMc13.out; omega); intro v136 w26 ho hb hg hat; rw [← Ny135.out] at ho; have n0_ := Aside0.mk (blk_grown (g := gb128) (o := .cells #[.int .i64 ((rd_T32 l0 (rd l1 x11_1)).f0.f0), .int .i64 ((rd_T32 l0 (rd l1 x11_1)).f0.f1), .string ((rd_T32 l0 (rd l1 x11_1)).f0.f2), .int .i64 ((rd_T32 l0 (rd l1 x11_1)).f1), .int .i64 ((rd_T32 l0 (rd l1 x11_1)).f2.f0), .int .i64 ((rd_T32 l0 (rd l1 x11_1)).f2.f1), .string ((rd_T32 l0 (rd l1 x11_1)).f2.f2), .int .i64 ((rd_T32 l0 (rd l1 x11_1)).f3), .slice Ao20 t129.length co20, .slice Ao22 t132.length co22, .int .i64 ((rd_T32 l0 (rd l1 x11_1)).f6), .int .i64 ((rd_T32 l0 (rd l1 x11_1)).f7)] 32 (0, 0)) (by (with_reducible repeat (first | refine blk_drewN ?_ _ | refine blk_drew ?_ | refine blk_alloc ?_ _)); exact BK128.out) hg (Kd.S_away HO_5.out (fun _ hk => hk.2.2))); have n1_ := Aside0.mk (hb); have n2_ := Aside0.mk (ho); clear BK128; clear HB; clear HO_5; clear HO131; clear HO134; have BK128 := n0_; have HB := n1_; have HO137 := n2_; clear n0_ n1_ n2_; clear ho hb hg hat))
                        go_roundg kj5
                        case measure => have := HK1.out; have := HJ5.out; omega
                        case rel => exact ⟨(y135), (wrap64 (x11_1 + 1)), (by first | rfl | (simp; done) | (simp [*]; done)), H', ⟨by have := HK1.out; have := HJ5.out; omega⟩, ⟨by (with_reducible repeat (first | apply Kd.S_alloc | apply Kd.S_drewN | apply Kd.S_drew)); exact Kd.S_mono HO137.out (fun _ hk => trivial)⟩, ⟨by repeat (first | (with_reducible first | exact HB.out | apply below_alloc | apply pw_below_drewN | apply below_drew1 | refine below_set ?_ GE128.out) | exact HB.out)⟩⟩
                      · rw [if_neg c13] at H
                        exact absurd H (by simp)
                    · rw [if_neg c10] at H
                      exact absurd H (by simp)
                  · rw [if_neg c9] at H
                    exact absurd H (by simp)
          · rw [if_neg c5] at H
            exact absurd H (by simp)
        · rw [if_neg c4] at H
          exact absurd H (by simp)
      · rw [if_neg c3] at H
        have c3b0 : decide (x11_1 < (l1.length : Int)) = false := decide_eq_false c3
        clear c3
        obtain rfl := Option.some.inj H
        go_wp2
        go_ret
        exact ⟨_, by first | rfl | (simp [errW_none, errW_some] <;> rfl) | (simp [*, errW_none, errW_some] <;> rfl), by (with_reducible repeat (first | apply Kd.S_alloc | apply Kd.S_drewN | apply Kd.S_drew)); exact HO_5.out, by repeat (first | (with_reducible first | exact HB.out | apply below_alloc | apply pw_below_drewN | apply below_drew1) | exact HB.out)⟩

end Go.Proofs.Ytbogookhndaeeaa.PP
