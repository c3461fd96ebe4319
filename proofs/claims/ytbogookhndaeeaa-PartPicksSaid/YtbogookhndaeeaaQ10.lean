-- A text of this seat: turned out of what the print tool wrote.
import Derived.Test.YtbogookhndaeeaaQ0
namespace Go.Proofs.Ytbogookhndaeeaa.PP
open Go.RowKit Go.Proofs.YtbogookhndaeeaaW.PrintWords Go.Proofs.YtbogookhndaeeaaW.PrintLast Go.Proofs.YtbogookhndaeeaaW.PrintMore
attribute [local go_sem] max2_int min2_int max_two min_two max_three min_three max_four min_four   -- for this text's walks alone
set_option linter.unusedVariables false
set_option linter.unusedSimpArgs false

/-! ### incognitoref19_Pick: function 7 -/
def incognitoref19_Pick.l0 : Nat → List (S32) → List Int → List (S32) → Int → Option ((List (S32)))
  | 0, _, _, _, _ => none
  | k + 1, x0, x1, x5, x6 => if x6 < (x1.length : Int) then (if 0 ≤ x6 then (if (rd x1 x6) ≥ 0 then (if (rd x1 x6) < (x0.length : Int) then (if 0 ≤ (rd x1 x6) then (if x5.length < 977343669134 then (incognitoref19_Pick.l0 k x0 x1 (x5 ++ [(⟨(⟨(rd_T32 x0 (rd x1 x6)).f0.f0, (rd_T32 x0 (rd x1 x6)).f0.f1, (rd_T32 x0 (rd x1 x6)).f0.f2⟩ : S29), (rd_T32 x0 (rd x1 x6)).f1, (⟨(rd_T32 x0 (rd x1 x6)).f2.f0, (rd_T32 x0 (rd x1 x6)).f2.f1, (rd_T32 x0 (rd x1 x6)).f2.f2⟩ : S29), (rd_T32 x0 (rd x1 x6)).f3, (rd_T32 x0 (rd x1 x6)).f4, (rd_T32 x0 (rd x1 x6)).f5, (rd_T32 x0 (rd x1 x6)).f6, (rd_T32 x0 (rd x1 x6)).f7⟩ : S32)]) (wrap64 (x6 + 1))) else (none)) else (none)) else (incognitoref19_Pick.l0 k x0 x1 x5 (wrap64 (x6 + 1)))) else (incognitoref19_Pick.l0 k x0 x1 x5 (wrap64 (x6 + 1)))) else (none)) else (some x5)
def incognitoref19_Pick.f (k : Nat) (l0 : List (S32)) (l1 : List Int) : Option ((List (S32))) := incognitoref19_Pick.l0 k l0 l1 ([] : List (S32)) 0
theorem incognitoref19_Pick.mono_l : ∀ k, (∀ y0 y1 y2 y3, LeO (incognitoref19_Pick.l0 k y0 y1 y2 y3) (incognitoref19_Pick.l0 (k + 1) y0 y1 y2 y3))
  | 0 => fun _ _ _ _ r h => by simp [incognitoref19_Pick.l0] at h
  | k + 1 => by
    have ih0 := incognitoref19_Pick.mono_l k
    · intro y0 y1 y2 y3
      unfold incognitoref19_Pick.l0
      repeat' first
      | (with_reducible exact ih0 _ _ _ _)
      | (with_reducible exact LeO.refl _)
      | (with_reducible exact LeO.none _)
      | (with_reducible refine LeO.ite ?_ ?_)
      | (with_reducible refine LeO.bind ?_ (fun _ => ?_))
      | exact ih0 _ _ _ _
      | exact LeO.none _
      | refine LeO.ite ?_ ?_
      | refine LeO.bind ?_ (fun _ => ?_)
theorem incognitoref19_Pick.mono : ∀ a0 a1 k, LeO (incognitoref19_Pick.f k a0 a1) (incognitoref19_Pick.f (k + 1) a0 a1) := by
  intro a0 a1 k
  have ih0 := incognitoref19_Pick.mono_l k
  unfold incognitoref19_Pick.f
  repeat' first
      | (with_reducible exact ih0 _ _ _ _)
      | (with_reducible exact LeO.refl _)
      | (with_reducible exact LeO.none _)
      | (with_reducible refine LeO.ite ?_ ?_)
      | (with_reducible refine LeO.bind ?_ (fun _ => ?_))
      | exact ih0 _ _ _ _
      | exact LeO.none _
      | refine LeO.ite ?_ ?_
      | refine LeO.bind ?_ (fun _ => ?_)
set_option maxHeartbeats 8000000 in
set_option maxRecDepth 100000 in
theorem incognitoref19_Pick.calls (k : Nat) (P0_ : Nat → Prop) (A0 : Option Addr) (c0 : Nat) (l0 : List (S32)) (A1 : Option Addr) (c1 : Nat) (l1 : List Int) (r : List (S32)) (w : World) (hs0 : Kd.V k32 32 w w.heap.size (fun k_ => P0_ k_) (.slice A0 l0.length c0) l0) (hr1 : Kd.C (Kd.int .i64) w A1 l1.length l1) (hc1 : l1.length ≤ c1) (h : incognitoref19_Pick.f k l0 l1 = some r) :
    Calls Try.prog 7 #[.slice A0 l0.length c0, .slice A1 l1.length c1] w fun e w' => ∃ v0_ : Value, e = .returned (v0_) ∧ Kd.N k32 32 w' w.heap.size (fun k_ => (P0_ k_ ∨ w.heap.size ≤ k_)) v0_ r ∧ Below w.heap.size w w' := by
  have hu32 := Try.underlying32
  have HO0 := Aside0.mk (show Kd.V k32 32 w w.heap.size (fun k_ => (P0_ k_ ∨ w.heap.size ≤ k_)) (.slice A0 l0.length c0) l0 from Kd.V_mono hs0 (fun k_ hk => .inl hk))
  have HR1 := Aside0.mk hr1
  have HC1 := Aside0.mk hc1
  clear hr1 hc1
  have HB := Aside0.mk (Below.refl w.heap.size w)
  have H : (incognitoref19_Pick.l0 k l0 l1 ([] : List (S32)) 0) = some r := h
  clear h
  have H' := Aside0.mk H
  clear H
  go_enter Try.func7, Try.ntmps7
  go_wp2
  go_loopg [5, 6] k (fun kq v5 v6 w' => ∃ (x5_1 : List (S32)) (x6_1 : Int), v6 = .int .i64 x6_1 ∧ Aside0 (incognitoref19_Pick.l0 kq l0 l1 x5_1 x6_1 = some r) ∧ Aside0 (kq ≤ k) ∧ Aside0 (Kd.V k32 32 w' w.heap.size (fun k_ => (P0_ k_ ∨ w.heap.size ≤ k_) ∧ some k_ ≠ (v5 : Value).ownBlock) (.slice A0 l0.length c0) l0) ∧ Aside0 (Kd.N k32 32 w' w.heap.size (fun k_ => (P0_ k_ ∨ w.heap.size ≤ k_)) v5 x5_1) ∧ Aside0 (Below w.heap.size w w'))
  case atStart => exact ⟨(([] : List (S32))), (0), (by first | rfl | (simp; done) | (simp [*]; done)), H', ⟨Nat.le_refl _⟩, ⟨by (with_reducible repeat (first | apply Kd.V_alloc | apply Kd.V_drewN | apply Kd.V_drew)); exact Kd.V_mono HO0.out (fun _ hk => ⟨hk, (by simp [Value.ownBlock])⟩)⟩, ⟨by first | exact Kd.S_nil _ _ _ _ _ | exact Kd.N_nil _ _ _ _ _ | exact Kd.V_nil _ _ _ _ _ | exact Kd.Q_nil _ _ _ _ _ | exact Kd.R_nil _ _ _ _ _⟩, ⟨by repeat (first | (with_reducible first | exact HB.out | apply below_alloc | apply pw_below_drewN | apply below_drew1) | exact HB.out)⟩⟩
  case round =>
    clear H'
    try clear c1
    try clear p2
    obtain ⟨x5_1, x6_1, rfl, HA, HK1, HO_0, HO_5, HB⟩ := hrel
    cases gk with
    | zero => exact absurd HA.out (by simp [incognitoref19_Pick.l0])
    | succ k1 =>
      have H := HA.out
      clear HA
      simp only [incognitoref19_Pick.l0] at H
      by_cases c3 : x6_1 < (l1.length : Int)
      · rw [if_pos c3] at H
        have c3b0 : decide (x6_1 < (l1.length : Int)) = true := decide_eq_true c3
        clear c3
        by_cases c4 : 0 ≤ x6_1
        · rw [if_pos c4] at H
          have c4b0 : decide (0 ≤ x6_1) = true := decide_eq_true c4
          clear c4
          by_cases c5 : (rd l1 x6_1) ≥ 0
          · rw [if_pos c5] at H
            have c5b0 : decide (0 ≤ (rd l1 x6_1)) = true := decide_eq_true c5
            clear c5
            by_cases c6 : (rd l1 x6_1) < (l0.length : Int)
            · rw [if_pos c6] at H
              have c6b0 : decide ((rd l1 x6_1) < (l0.length : Int)) = true := decide_eq_true c6
              clear c6
              by_cases c7 : 0 ≤ (rd l1 x6_1)
              · rw [if_pos c7] at H
                have c7b0 : decide (0 ≤ (rd l1 x6_1)) = true := decide_eq_true c7
                clear c7
                by_cases c8 : x5_1.length < 977343669134
                · rw [if_pos c8] at H
                  have LMc8 := Aside0.mk c8
                  clear c8
                  obtain ⟨y151, hy151⟩ : ∃ y_ : List (S32), y_ = (x5_1 ++ [(⟨(⟨(rd_T32 l0 (rd l1 x6_1)).f0.f0, (rd_T32 l0 (rd l1 x6_1)).f0.f1, (rd_T32 l0 (rd l1 x6_1)).f0.f2⟩ : S29), (rd_T32 l0 (rd l1 x6_1)).f1, (⟨(rd_T32 l0 (rd l1 x6_1)).f2.f0, (rd_T32 l0 (rd l1 x6_1)).f2.f1, (rd_T32 l0 (rd l1 x6_1)).f2.f2⟩ : S29), (rd_T32 l0 (rd l1 x6_1)).f3, (rd_T32 l0 (rd l1 x6_1)).f4, (rd_T32 l0 (rd l1 x6_1)).f5, (rd_T32 l0 (rd l1 x6_1)).f6, (rd_T32 l0 (rd l1 x6_1)).f7⟩ : S32)]) := ⟨_, rfl⟩
                  replace H : (incognitoref19_Pick.l0 k1 l0 l1 y151 (wrap64 (x6_1 + 1))) = some r := by first | (rw [hy151]; with_reducible exact H) | (have H2_ := (Option.bind_some _ _).symm.trans H; rw [hy151]; with_reducible exact H2_) | (have H2_ := (Option.bind_some _ _).symm.trans H; with_reducible exact H2_) | with_reducible exact H | (rw [hy151]; exact H) | exact H
                  have Ny151 := Aside0.mk hy151
                  clear hy151
                  have H' := Aside0.mk H
                  clear H
                  have p147 : 0 ≤ (x6_1 : Int) := of_decide_eq_true (by first | (with_reducible assumption) | assumption)
                  have q147 : x6_1 < (l1.length : Int) := of_decide_eq_true (by first | (with_reducible assumption) | assumption)
                  obtain ⟨ad147, e147, hx147_0⟩ := Kd.at_int HR1.out x6_1 p147 q147
                  cases e147
                  replace hx147_0 := (HB.out.cell (World.block_lt_of_cell? w _ hx147_0)).trans hx147_0
                  replace p147 := eq_true p147
                  replace q147 := eq_true q147
                  have p148 : 0 ≤ (x6_1 : Int) := of_decide_eq_true (by first | (with_reducible assumption) | assumption)
                  have q148 : x6_1 < (l1.length : Int) := of_decide_eq_true (by first | (with_reducible assumption) | assumption)
                  obtain ⟨ad148, e148, hx148_0⟩ := Kd.at_int HR1.out x6_1 p148 q148
                  obtain rfl : ad147 = ad148 := (by injection e148)
                  replace hx148_0 := (HB.out.cell (World.block_lt_of_cell? w _ hx148_0)).trans hx148_0
                  replace p148 := eq_true p148
                  replace q148 := eq_true q148
                  have p149 : 0 ≤ (x6_1 : Int) := of_decide_eq_true (by first | (with_reducible assumption) | assumption)
                  have q149 : x6_1 < (l1.length : Int) := of_decide_eq_true (by first | (with_reducible assumption) | assumption)
                  obtain ⟨ad149, e149, hx149_0⟩ := Kd.at_int HR1.out x6_1 p149 q149
                  obtain rfl : ad147 = ad149 := (by injection e149)
                  replace hx149_0 := (HB.out.cell (World.block_lt_of_cell? w _ hx149_0)).trans hx149_0
                  replace p149 := eq_true p149
                  replace q149 := eq_true q149
                  have p150 : 0 ≤ ((rd l1 x6_1) : Int) := of_decide_eq_true (by first | (with_reducible assumption) | assumption)
                  have q150 : (rd l1 x6_1) < (l0.length : Int) := of_decide_eq_true (by first | (with_reducible assumption) | assumption)
                  obtain ⟨ad150, A150_8, c150_8, A150_9, c150_9, e150, hx150_0, hx150_1, hx150_2, hx150_3, hx150_4, hx150_5, hx150_6, hx150_7, hx150_8, hx150_9, hx150_10, hx150_11, hl150_8, hi150_8, hl150_9, hi150_9⟩ := at_T32 (Kd.V_reads' HO_0.out).2.2 (rd l1 x6_1) p150 q150
                  cases e150
                  obtain ⟨ce150, hce150, hMe150, hcc150⟩ := Kd.V_get HO_0.out z32 (rd l1 x6_1) p150 (by first | exact q150 | exact of_decide_eq_true (by first | (with_reducible assumption) | assumption) | (have e_ := (Kd.V_reads' HO_0.out).1; omega))
                  obtain ⟨ua150_8, uc150_8, ua150_9, uc150_9, rfl, ul150_8, ge150_8, ul150_9, ge150_9⟩ := k32_openF hMe150
                  have hv150_8 := hcc150 8 _ rfl
                  rw [add_field _ _ 8 (by omega)] at hv150_8
                  replace hv150_8 := Option.some.inj (hv150_8.symm.trans hx150_8)
                  injection hv150_8 with hva_ hvn_ hvc_
                  rw [hva_] at ge150_8
                  rw [hvc_] at ul150_8
                  have HL150_8 := Aside0.mk (show Kd.V k29 29 _ w.heap.size _ _ ((rd_T32 l0 (rd l1 x6_1)).f4) from Kd.V_mk ul150_8 ge150_8)
                  clear hva_ hvn_ hvc_ ge150_8 ul150_8
                  have hv150_9 := hcc150 9 _ rfl
                  rw [add_field _ _ 9 (by omega)] at hv150_9
                  replace hv150_9 := Option.some.inj (hv150_9.symm.trans hx150_9)
                  injection hv150_9 with hva_ hvn_ hvc_
                  rw [hva_] at ge150_9
                  rw [hvc_] at ul150_9
                  have HL150_9 := Aside0.mk (show Kd.V k29 29 _ w.heap.size _ _ ((rd_T32 l0 (rd l1 x6_1)).f5) from Kd.V_mk ul150_9 ge150_9)
                  clear hva_ hvn_ hvc_ ge150_9 ul150_9
                  clear hcc150 hce150
                  have HR150_8 := Aside0.mk hi150_8
                  have HC150_8 := Aside0.mk hl150_8
                  clear hi150_8 hl150_8
                  have HR150_9 := Aside0.mk hi150_9
                  have HC150_9 := Aside0.mk hl150_9
                  clear hi150_9 hl150_9
                  replace p150 := eq_true p150
                  replace q150 := eq_true q150
                  go_wp2_with (first | ((with_reducible refine gate_builtin (b := .append) (xs := #[.tmp 27, .tmp 35]) rfl ?_); (try (refine gate_guard (by rfl) ?_; dsimp only)); at_builtin; refine Kd.N_append k32 (w0 := w) w.heap.size rfl (.tmp 27) (.tmp 35) 22 32 (.agg #[(.int .i64 0), (.int .i64 0), (.string ⟨#[]⟩), (.int .i64 0), (.int .i64 0), (.int .i64 0), (.string ⟨#[]⟩), (.int .i64 0), (.slice none 0 0), (.slice none 0 0), (.int .i64 0), (.int .i64 0)]) 144 rfl Try.underlying22 info32 rfl (by decide) (by omega) u5 x5_1 (⟨(⟨(rd_T32 l0 (rd l1 x6_1)).f0.f0, (rd_T32 l0 (rd l1 x6_1)).f0.f1, (rd_T32 l0 (rd l1 x6_1)).f0.f2⟩ : S29), (rd_T32 l0 (rd l1 x6_1)).f1, (⟨(rd_T32 l0 (rd l1 x6_1)).f2.f0, (rd_T32 l0 (rd l1 x6_1)).f2.f1, (rd_T32 l0 (rd l1 x6_1)).f2.f2⟩ : S29), (rd_T32 l0 (rd l1 x6_1)).f3, (rd_T32 l0 (rd l1 x6_1)).f4, (rd_T32 l0 (rd l1 x6_1)).f5, (rd_T32 l0 (rd l1 x6_1)).f6, (rd_T32 l0 (rd l1 x6_1)).f7⟩ : S32) [.int .i64 ((rd_T32 l0 (rd l1 x6_1)).f0.f0), .int .i64 ((rd_T32 l0 (rd l1 x6_1)).f0.f1), .string ((rd_T32 l0 (rd l1 x6_1)).f0.f2), .int .i64 ((rd_T32 l0 (rd l1 x6_1)).f1), .int .i64 ((rd_T32 l0 (rd l1 x6_1)).f2.f0), .int .i64 ((rd_T32 l0 (rd l1 x6_1)).f2.f1), .string ((rd_T32 l0 (rd l1 x6_1)).f2.f2), .int .i64 ((rd_T32 l0 (rd l1 x6_1)).f3), .slice A150_8 ((rd_T32 l0 (rd l1 x6_1)).f4).length c150_8, .slice A150_9 ((rd_T32 l0 (rd l1 x6_1)).f5).length c150_9, .int .i64 ((rd_T32 l0 (rd l1 x6_1)).f6), .int .i64 ((rd_T32 l0 (rd l1 x6_1)).f7)] (fun k_ => (P0_ k_ ∨ w.heap.size ≤ k_)) (fun k_ => ((fun k_ => (P0_ k_ ∨ w.heap.size ≤ k_))) k_ ∧ some k_ ≠ (u5 : Value).ownBlock) rfl rfl ?aP (fun _ hk => hk) ?aF ?aO ?aB ?aS ?aL ?_; (case aP => exact (k32_mkF _ _ (⟨(⟨(rd_T32 l0 (rd l1 x6_1)).f0.f0, (rd_T32 l0 (rd l1 x6_1)).f0.f1, (rd_T32 l0 (rd l1 x6_1)).f0.f2⟩ : S29), (rd_T32 l0 (rd l1 x6_1)).f1, (⟨(rd_T32 l0 (rd l1 x6_1)).f2.f0, (rd_T32 l0 (rd l1 x6_1)).f2.f1, (rd_T32 l0 (rd l1 x6_1)).f2.f2⟩ : S29), (rd_T32 l0 (rd l1 x6_1)).f3, (rd_T32 l0 (rd l1 x6_1)).f4, (rd_T32 l0 (rd l1 x6_1)).f5, (rd_T32 l0 (rd l1 x6_1)).f6, (rd_T32 l0 (rd l1 x6_1)).f7⟩ : S32) (Kd.V_reads' (Kd.V_mono (ok' := (fun k_ => ((fun k_ => (P0_ k_ ∨ w.heap.size ≤ k_))) k_ ∧ some k_ ≠ (u5 : Value).ownBlock)) (HL150_8.out) (fun k_ hk => ⟨hk.1, hk.2⟩))).2.1 (Kd.V_F (Kd.V_mono (ok' := (fun k_ => ((fun k_ => (P0_ k_ ∨ w.heap.size ≤ k_))) k_ ∧ some k_ ≠ (u5 : Value).ownBlock)) (HL150_8.out) (fun k_ hk => ⟨hk.1, hk.2⟩))) (Kd.V_reads' (Kd.V_mono (ok' := (fun k_ => ((fun k_ => (P0_ k_ ∨ w.heap.size ≤ k_))) k_ ∧ some k_ ≠ (u5 : Value).ownBlock)) (HL150_9.out) (fun k_ hk => ⟨hk.1, hk.2⟩))).2.1 (Kd.V_F (Kd.V_mono (ok' := (fun k_ => ((fun k_ => (P0_ k_ ∨ w.heap.size ≤ k_))) k_ ∧ some k_ ≠ (u5 : Value).ownBlock)) (HL150_9.out) (fun k_ hk => ⟨hk.1, hk.2⟩))))); (case aB => exact (by repeat (first | (with_reducible first | exact HB.out | apply below_alloc | apply pw_below_drewN | apply below_drew1) | exact HB.out))); (case aF => exact (fun k_ hk => (.inr (Nat.le_trans (below_size (by repeat (first | (with_reducible first | exact HB.out | apply below_alloc | apply pw_below_drewN | apply below_drew1) | exact HB.out))) hk)))); (case aO => exact (by (with_reducible repeat (first | apply Kd.N_alloc | apply Kd.N_drewN | apply Kd.N_drew)); exact HO_5.out)); (case aS => exact (below_size (by repeat (first | (with_reducible first | exact HB.out | apply below_alloc | apply pw_below_drewN | apply below_drew1) | exact HB.out)))); (case aL => have := LMc8.out; omega); intro v152 w9 ho hb hg hat; rw [← Ny151.out] at ho; have n0_ := Aside0.mk (Kd.V_afterv (ok := (fun k_ => (P0_ k_ ∨ w.heap.size ≤ k_))) (by (with_reducible repeat (first | apply Kd.V_alloc | apply Kd.V_drewN | apply Kd.V_drew)); exact HO_0.out) hg hat); have n1_ := Aside0.mk (Kd.V_afterv (ok := (fun k_ => (P0_ k_ ∨ w.heap.size ≤ k_))) (by (with_reducible repeat (first | apply Kd.V_alloc | apply Kd.V_drewN | apply Kd.V_drew)); exact HL150_8.out) hg hat); have n2_ := Aside0.mk (Kd.V_afterv (ok := (fun k_ => (P0_ k_ ∨ w.heap.size ≤ k_))) (by (with_reducible repeat (first | apply Kd.V_alloc | apply Kd.V_drewN | apply Kd.V_drew)); exact HL150_9.out) hg hat); have n3_ := Aside0.mk (hb); have n4_ := Aside0.mk (ho); clear HO_0; clear HL150_8; clear HL150_9; clear HB; clear HO_5; have HO_0 := n0_; have HL150_8 := n1_; have HL150_9 := n2_; have HB := n3_; have HO153 := n4_; clear n0_ n1_ n2_ n3_ n4_; clear ho hb hg hat))
                  go_roundg k1
                  case measure => have := HK1.out; omega
                  case rel => exact ⟨(y151), (wrap64 (x6_1 + 1)), (by first | rfl | (simp; done) | (simp [*]; done)), H', ⟨by have := HK1.out; omega⟩, ⟨by (with_reducible repeat (first | apply Kd.V_alloc | apply Kd.V_drewN | apply Kd.V_drew)); exact HO_0.out⟩, ⟨by (with_reducible repeat (first | apply Kd.N_alloc | apply Kd.N_drewN | apply Kd.N_drew)); exact HO153.out⟩, ⟨by repeat (first | (with_reducible first | exact HB.out | apply below_alloc | apply pw_below_drewN | apply below_drew1) | exact HB.out)⟩⟩
                · rw [if_neg c8] at H
                  exact absurd H (by simp)
              · rw [if_neg c7] at H
                exact absurd H (by simp)
            · rw [if_neg c6] at H
              have c6b0 : decide ((rd l1 x6_1) < (l0.length : Int)) = false := decide_eq_false c6
              clear c6
              have H' := Aside0.mk H
              clear H
              have p147 : 0 ≤ (x6_1 : Int) := of_decide_eq_true (by first | (with_reducible assumption) | assumption)
              have q147 : x6_1 < (l1.length : Int) := of_decide_eq_true (by first | (with_reducible assumption) | assumption)
              obtain ⟨ad147, e147, hx147_0⟩ := Kd.at_int HR1.out x6_1 p147 q147
              cases e147
              replace hx147_0 := (HB.out.cell (World.block_lt_of_cell? w _ hx147_0)).trans hx147_0
              replace p147 := eq_true p147
              replace q147 := eq_true q147
              have p148 : 0 ≤ (x6_1 : Int) := of_decide_eq_true (by first | (with_reducible assumption) | assumption)
              have q148 : x6_1 < (l1.length : Int) := of_decide_eq_true (by first | (with_reducible assumption) | assumption)
              obtain ⟨ad148, e148, hx148_0⟩ := Kd.at_int HR1.out x6_1 p148 q148
              obtain rfl : ad147 = ad148 := (by injection e148)
              replace hx148_0 := (HB.out.cell (World.block_lt_of_cell? w _ hx148_0)).trans hx148_0
              replace p148 := eq_true p148
              replace q148 := eq_true q148
              go_wp2
              go_roundg k1
              case measure => have := HK1.out; omega
              case rel => exact ⟨(x5_1), (wrap64 (x6_1 + 1)), (by first | rfl | (simp; done) | (simp [*]; done)), H', ⟨by have := HK1.out; omega⟩, ⟨by (with_reducible repeat (first | apply Kd.V_alloc | apply Kd.V_drewN | apply Kd.V_drew)); exact HO_0.out⟩, ⟨by (with_reducible repeat (first | apply Kd.N_alloc | apply Kd.N_drewN | apply Kd.N_drew)); exact HO_5.out⟩, ⟨by repeat (first | (with_reducible first | exact HB.out | apply below_alloc | apply pw_below_drewN | apply below_drew1) | exact HB.out)⟩⟩
          · rw [if_neg c5] at H
            have c5b0 : decide (0 ≤ (rd l1 x6_1)) = false := decide_eq_false c5
            clear c5
            have H' := Aside0.mk H
            clear H
            have p147 : 0 ≤ (x6_1 : Int) := of_decide_eq_true (by first | (with_reducible assumption) | assumption)
            have q147 : x6_1 < (l1.length : Int) := of_decide_eq_true (by first | (with_reducible assumption) | assumption)
            obtain ⟨ad147, e147, hx147_0⟩ := Kd.at_int HR1.out x6_1 p147 q147
            cases e147
            replace hx147_0 := (HB.out.cell (World.block_lt_of_cell? w _ hx147_0)).trans hx147_0
            replace p147 := eq_true p147
            replace q147 := eq_true q147
            go_wp2
            go_roundg k1
            case measure => have := HK1.out; omega
            case rel => exact ⟨(x5_1), (wrap64 (x6_1 + 1)), (by first | rfl | (simp; done) | (simp [*]; done)), H', ⟨by have := HK1.out; omega⟩, ⟨by (with_reducible repeat (first | apply Kd.V_alloc | apply Kd.V_drewN | apply Kd.V_drew)); exact HO_0.out⟩, ⟨by (with_reducible repeat (first | apply Kd.N_alloc | apply Kd.N_drewN | apply Kd.N_drew)); exact HO_5.out⟩, ⟨by repeat (first | (with_reducible first | exact HB.out | apply below_alloc | apply pw_below_drewN | apply below_drew1) | exact HB.out)⟩⟩
        · rw [if_neg c4] at H
          exact absurd H (by simp)
      · rw [if_neg c3] at H
        have c3b0 : decide (x6_1 < (l1.length : Int)) = false := decide_eq_false c3
        clear c3
        obtain rfl := Option.some.inj H
        go_wp2
        go_ret
        exact ⟨_, by first | rfl | (simp [errW_none, errW_some] <;> rfl) | (simp [*, errW_none, errW_some] <;> rfl), by (with_reducible repeat (first | apply Kd.N_alloc | apply Kd.N_drewN | apply Kd.N_drew)); exact HO_5.out, by repeat (first | (with_reducible first | exact HB.out | apply below_alloc | apply pw_below_drewN | apply below_drew1) | exact HB.out)⟩

end Go.Proofs.Ytbogookhndaeeaa.PP
