-- A text of this seat: turned out of what the print tool wrote.
import Derived.Test.YtbogookhndaeeaaQ0
namespace Go.Proofs.Ytbogookhndaeeaa.PP
open Go.RowKit Go.Proofs.YtbogookhndaeeaaW.PrintWords Go.Proofs.YtbogookhndaeeaaW.PrintLast Go.Proofs.YtbogookhndaeeaaW.PrintMore
attribute [local go_sem] max2_int min2_int max_two min_two max_three min_three max_four min_four   -- for this text's walks alone
set_option linter.unusedVariables false
set_option linter.unusedSimpArgs false

-- GIVEN: part_Objects: function 9
theorem laidOut : laidOutB Try.prog = true := by kernel_rfl
theorem row41 : 41 < Try.prog.types.size := of_decide_eq_true (by kernel_rfl)
theorem wide41 : (match Try.prog.underlying 41 with | some (.array _ _) | some (.struct _) => true | _ => false) = true := by kernel_rfl
theorem law41 : Maps.Keyed Try.prog 41 := Maps.Keyed.of_law (deep_law_laid laidOut (m := 4) (by omega) row41 (by kernel_rfl) wide41)
theorem zero3 (w : World) : (zeroValue 3).run Try.prog w = .ok (.int .i64 0) w := by kernel_rfl
theorem keyType41 : Try.prog.keyType 41 = true := by kernel_rfl
theorem size_types : Try.prog.types.size = 61 := by kernel_rfl
theorem cells41 : Try.prog.cellsOf 41 = 4 := by kernel_rfl
theorem cells29 : Try.prog.cellsOf 29 = 3 := by kernel_rfl
theorem cells3 : Try.prog.cellsOf 3 = 1 := by kernel_rfl
theorem cells2 : Try.prog.cellsOf 2 = 1 := by kernel_rfl
theorem cells9 : Try.prog.cellsOf 9 = 1 := by kernel_rfl
theorem lits41 (d : Nat) (m a b : Int) (s : ByteArray) (hm : (Lit.int .i64 m).wf = true) (ha : (Lit.int .i64 a).wf = true) (hb : (Lit.int .i64 b).wf = true) (hs : s.size ≤ maxLen) :
    Try.prog.keyLits (d + 3) 41 [.int .i64 m, .int .i64 a, .int .i64 b, .string s] = some [.int .i64 m, .int .i64 a, .int .i64 b, .string s.data.toList] := by
  simp [Program.keyLits, Try.underlying41, Try.underlying29, Try.underlying3, Try.underlying2, Try.underlying9, cells41, cells29, cells3, cells2, cells9, hm, ha, hb, hs]
  rw [if_pos (by decide)]
  rfl
theorem key41 (m a b : Int) (s : ByteArray) (hm : (Lit.int .i64 m).wf = true) (ha : (Lit.int .i64 a).wf = true) (hb : (Lit.int .i64 b).wf = true) (hs : s.size ≤ maxLen) :
    keyOf Try.prog 41 (.agg #[.int .i64 m, .int .i64 a, .int .i64 b, .string s]) = some (.string (keyBytes [.int .i64 m, .int .i64 a, .int .i64 b, .string s.data.toList])) := by
  unfold keyOf
  rw [Try.underlying41]
  have h1 := lits41 59 m a b s hm ha hb hs
  have h2 : Value.formed Try.prog 41 (.agg #[.int .i64 m, .int .i64 a, .int .i64 b, .string s]) = true := by
    simp [Value.formed, Try.underlying41, cells41]
  simp only [keyType41, size_types, h2]
  show Option.map _ (Try.prog.keyLits (59 + 3) 41 [.int .i64 m, .int .i64 a, .int .i64 b, .string s]) = _
  rw [h1]
  rfl

/-- Two new blocks: the world gets a letter. -/
theorem letter2 {wr : World} {cs1 cs2 : Array Value} {t1 t2 : TypeId} {G : World → Prop} (h : ∀ W : World, Below wr.heap.size wr W → W.heap[wr.heap.size + 1]? = some (.cells cs2 t2 (0, 0)) → G W) : G ((wr.alloc (.cells cs1 t1 (0, 0))).alloc (.cells cs2 t2 (0, 0))) := by
  refine h _ (((Below.refl _ _).alloc (Nat.le_refl _) _).alloc (by simp) _) ?_
  have := heap_alloc_new (wr.alloc (.cells cs1 t1 (0, 0))) (.cells cs2 t2 (0, 0))
  simpa using this

/-- What part.Objects comes to: the map as it reads, beside the lists. -/
def objKey (x : S32) : Lit := .string (keyBytes [.int .i64 x.f1, .int .i64 x.f2.f0, .int .i64 x.f2.f1, .string x.f2.f2.data.toList])
def objOk (x : S32) : Bool := (Lit.int .i64 x.f1).wf && (Lit.int .i64 x.f2.f0).wf && (Lit.int .i64 x.f2.f1).wf && decide (x.f2.f2.size ≤ maxLen)
noncomputable def objAt (D : DataW Unit) (l : Lit) : Int := match D.atKey l (.lit (.int .i64 0)) with | .lit (.int _ c) => c | _ => 0
noncomputable def part_Objects.l0 : Nat → List (S32) → List (List Int) → DataW Unit → Int → Option ((List (List Int)))
  | 0, _, _, _, _ => none
  | k + 1, x0, x3, D, i => if i < (x0.length : Int) then (if 0 ≤ i then (if objOk (rd_T32 x0 i) = true then (if Maps.has D (objKey (rd_T32 x0 i)) = true then (if 0 ≤ objAt D (objKey (rd_T32 x0 i)) then (if objAt D (objKey (rd_T32 x0 i)) < (x3.length : Int) then (if (rd_L1 x3 (objAt D (objKey (rd_T32 x0 i)))).length < 17592186044415 then (part_Objects.l0 k x0 (x3.set (objAt D (objKey (rd_T32 x0 i))).toNat ((rd_L1 x3 (objAt D (objKey (rd_T32 x0 i)))) ++ [i])) D (wrap64 (i + 1))) else (none)) else (none)) else (none)) else (if x3.length < 5864062014805 then (part_Objects.l0 k x0 ((x3 ++ [[]]).set x3.length [i]) (D.put (objKey (rd_T32 x0 i)) (.lit (.int .i64 (x3.length : Int)))) (wrap64 (i + 1))) else (none))) else (none)) else (none)) else (some x3)
noncomputable def part_Objects.f (k : Nat) (l0 : List (S32)) : Option ((List (List Int))) := part_Objects.l0 k l0 ([] : List (List Int)) (.map []) 0
theorem part_Objects.mono_l : ∀ k, (∀ y0 y1 y2 y3, LeO (part_Objects.l0 k y0 y1 y2 y3) (part_Objects.l0 (k + 1) y0 y1 y2 y3))
  | 0 => fun _ _ _ _ r h => by simp [part_Objects.l0] at h
  | k + 1 => by
    have ih0 := part_Objects.mono_l k
    · intro y0 y1 y2 y3
      unfold part_Objects.l0
      repeat' first
      | (with_reducible exact ih0 _ _ _ _)
      | (with_reducible exact LeO.refl _)
      | (with_reducible exact LeO.none _)
      | (with_reducible refine LeO.ite ?_ ?_)
      | (with_reducible refine LeO.bind ?_ (fun _ => ?_))
      | exact ih0 _ _ _ _
      | exact LeO.none _
      | refine LeO.ite ?_ ?_
      | refine LeO.bind ?_ (fun _ => ?_)
theorem part_Objects.mono : ∀ a0 k, LeO (part_Objects.f k a0) (part_Objects.f (k + 1) a0) := by
  intro a0 k
  exact part_Objects.mono_l k _ _ _ _
theorem objAt_eq {D : DataW Unit} {l : Lit} {c : Int} (h : D.atKey l (.lit (.int .i64 0)) = .lit (.int .i64 c)) : objAt D l = c := by
  unfold objAt
  rw [h]
set_option maxHeartbeats 8000000 in
set_option maxRecDepth 100000 in
theorem part_Objects.calls (k : Nat) (A0 : Option Addr) (c0 : Nat) (l0 : List (S32)) (r : List (List Int)) (w : World) (hr0 : Kd.C k32 w A0 l0.length l0) (hc0 : l0.length ≤ c0) (h : part_Objects.f k l0 = some r) :
    Calls Try.prog 9 #[.slice A0 l0.length c0] w fun e w' => ∃ v0_ : Value, e = .returned (v0_) ∧ Kd.S (Kd.slice 3 (Kd.int .i64)) 23 w' w.heap.size (fun _ => True) v0_ r ∧ Below w.heap.size w w' := by
  have hu32 := Try.underlying32
  have hu29 := Try.underlying29
  have hu41 := Try.underlying41
  have HR0 := Aside0.mk hr0
  have HC0 := Aside0.mk hc0
  have hmx := Aside0.mk hr0.2.1
  clear hr0 hc0
  have hmm := @run_makeMap Try.prog
  have H' := Aside0.mk (show part_Objects.l0 k l0 ([] : List (List Int)) (.map []) 0 = some r from h)
  clear h
  go_enter Try.func9, Try.ntmps9
  go_wp2
  go_loopg [3, 13] k (fun kq v3 v13 w' => ∃ (x3 : List (List Int)) (i : Int) (D : DataW Unit) (n : Nat), v13 = .int .i64 i ∧ Aside0 (part_Objects.l0 kq l0 x3 D i = some r) ∧ Aside0 (kq ≤ k) ∧ Aside0 (Kd.S (Kd.slice 3 (Kd.int .i64)) 23 w' (w.heap.size + 1) (fun _ => True) v3 x3) ∧ Aside0 (w'.ownsMap Try.prog 41 (plainElem Try.prog 3) w.heap.size n D) ∧ Aside0 ((n : Int) ≤ i) ∧ Aside0 (Below w.heap.size w w') ∧ Aside0 (w.heap.size + 1 ≤ w'.heap.size))
  case atStart => exact ⟨([] : List (List Int)), 0, .map [], 0, rfl, H', ⟨Nat.le_refl _⟩, ⟨Kd.S_nil _ _ _ _ _⟩, ⟨World.ownsMap_made _ _ _ _⟩, ⟨by simp⟩, ⟨(Below.refl _ _).alloc (Nat.le_refl _) _⟩, ⟨by simp⟩⟩
  case round =>
    clear H'
    obtain ⟨x3, i, D, n, rfl, HA, HK1, HO, HM, HN, HB, HZ⟩ := hrel
    cases gk with
    | zero => exact absurd HA.out (by simp [part_Objects.l0])
    | succ k1 =>
      have H := HA.out
      clear HA
      simp only [part_Objects.l0] at H
      obtain ⟨A3, cc3, e3⟩ := Kd.S_slice HO.out
      subst e3
      by_cases c2 : i < (l0.length : Int)
      · rw [if_pos c2] at H
        have c2b0 : decide (i < (l0.length : Int)) = true := decide_eq_true c2
        clear c2
        by_cases c3 : 0 ≤ i
        · rw [if_pos c3] at H
          have c3b0 : decide (0 ≤ i) = true := decide_eq_true c3
          clear c3
          by_cases c4 : objOk (rd_T32 l0 i) = true
          · rw [if_pos c4] at H
            have HOK := Aside0.mk c4
            clear c4
            have p114 : 0 ≤ (i : Int) := of_decide_eq_true c3b0
            have q114 : i < (l0.length : Int) := of_decide_eq_true c2b0
            obtain ⟨ad, A8, c8, A9, c9, e114, hx_0, hx_1, hx_2, hx_3, hx_4, hx_5, hx_6, hx_7, hx_8, hx_9, hx_10, hx_11, hl_8, hi_8, hl_9, hi_9⟩ := at_T32 HR0.out i p114 q114
            cases e114
            replace hx_0 := (HB.out.cell (World.block_lt_of_cell? w _ hx_0)).trans hx_0
            replace hx_1 := (HB.out.cell (World.block_lt_of_cell? w _ hx_1)).trans hx_1
            replace hx_2 := (HB.out.cell (World.block_lt_of_cell? w _ hx_2)).trans hx_2
            replace hx_3 := (HB.out.cell (World.block_lt_of_cell? w _ hx_3)).trans hx_3
            replace hx_4 := (HB.out.cell (World.block_lt_of_cell? w _ hx_4)).trans hx_4
            replace hx_5 := (HB.out.cell (World.block_lt_of_cell? w _ hx_5)).trans hx_5
            replace hx_6 := (HB.out.cell (World.block_lt_of_cell? w _ hx_6)).trans hx_6
            replace hx_7 := (HB.out.cell (World.block_lt_of_cell? w _ hx_7)).trans hx_7
            replace hx_8 := (HB.out.cell (World.block_lt_of_cell? w _ hx_8)).trans hx_8
            replace hx_9 := (HB.out.cell (World.block_lt_of_cell? w _ hx_9)).trans hx_9
            replace hx_10 := (HB.out.cell (World.block_lt_of_cell? w _ hx_10)).trans hx_10
            replace hx_11 := (HB.out.cell (World.block_lt_of_cell? w _ hx_11)).trans hx_11
            clear hl_8 hi_8 hl_9 hi_9
            have HN1 : Aside0 ((n : Int) ≤ wrap64 (i + 1)) := ⟨by have h1 := hmx.out; have h2 := HN.out; unfold wrap64; omega⟩
            replace p114 := eq_true p114
            replace q114 := eq_true q114
            have hkey : keyOf Try.prog 41 (.agg #[.int .i64 (rd_T32 l0 i).f1, .int .i64 (rd_T32 l0 i).f2.f0, .int .i64 (rd_T32 l0 i).f2.f1, .string (rd_T32 l0 i).f2.f2]) = some (objKey (rd_T32 l0 i)) := by
              have := HOK.out
              simp only [objOk, Bool.and_eq_true, decide_eq_true_eq] at this
              exact key41 _ _ _ _ this.1.1.1 this.1.1.2 this.1.2 this.2
            have HKEY := Aside0.mk hkey
            clear hkey
            obtain ⟨kl, hkl⟩ : ∃ kl, kl = objKey (rd_T32 l0 i) := ⟨_, rfl⟩
            rw [← hkl] at H HKEY
            clear hkl HOK
            by_cases c5 : Maps.has D kl = true
            · rw [if_pos c5] at H
              by_cases c7 : 0 ≤ objAt D kl
              · rw [if_pos c7] at H
                by_cases c8 : objAt D kl < (x3.length : Int)
                · rw [if_pos c8] at H
                  by_cases c9 : (rd_L1 x3 (objAt D kl)).length < 17592186044415
                  · rw [if_pos c9] at H
                    have H' := Aside0.mk H
                    have C7 := Aside0.mk c7
                    have C8 := Aside0.mk c8
                    have C9 := Aside0.mk c9
                    clear H c7 c8 c9
                    obtain ⟨g, cap, hv3, hgb, hgl, _⟩ := Kd.S_form HO.out (by have := C7.out; have := C8.out; omega)
                    cases hv3
                    have HGB := Aside0.mk hgb
                    clear hgb hgl
                    go_wp2_with (first
                      | (at_lookup; refine wpList_lookup_own_ok_int _ rfl _ _ 39 rfl 41 3 .i64 law41 Try.underlying39 Try.underlying3 (zero3 _) w.heap.size n D rfl ((HM.out.alloc _).alloc _) _ kl rfl HKEY.out ?_; rw [c5]; intro c hat hwc; obtain ⟨cq, hcq⟩ : ∃ cq, cq = objAt D kl := ⟨_, rfl⟩; obtain rfl : c = cq := (by rw [hcq, objAt_eq hat]); clear hat hwc; rw [← hcq] at H' C7 C8 C9; clear hcq; refine letter2 (G := fun W => wpList _ _ _ _ _ W) ?_; intro W hbW hxW; have HO1 := Aside0.mk (Kd.S_below HO.out hbW); have HM1 := Aside0.mk (HM.out.kept (grown_of_below hbW none) (by simp)); have HB1 := Aside0.mk (below_then HB.out HB.out.size hbW); have HZ1 := Aside0.mk (Nat.le_trans HZ.out hbW.size); clear hbW hxW;
                         obtain ⟨oki, ce, hcl, hM1, hcc, hfr, hoki, hH⟩ := Kd.S_elem HO1.out [] c C7.out C8.out; obtain ⟨ve, rfl, ge⟩ := hM1; obtain ⟨xe, hxe⟩ : ∃ xe, xe = rd_L1 x3 c := ⟨_, rfl⟩; rw [show x3.getD c.toNat [] = xe from hxe.symm] at ge; rw [← hxe] at H' C9; clear hxe; obtain ⟨Ae, cpe, rfl⟩ := Kd.R_slice ge; have hcell := hcc 0 _ rfl; have hfroz := hfr 0; (try simp only [show ((Kd.slice 3 (Kd.int .i64))).sz = 1 from rfl, Nat.mul_one, Nat.add_zero] at hcell hfroz); have GE := Aside0.mk ge; have HH := Aside0.mk hH; clear hcl hcc hfr hoki ge hH hfroz;
                         have C7d : decide (0 ≤ c) = true := decide_eq_true C7.out; have C8d : decide (c < (x3.length : Int)) = true := decide_eq_true C8.out; have C7e := eq_true C7.out; have C8e := eq_true C8.out)
                      | ((with_reducible refine gate_builtin (b := .append) (xs := #[.tmp 44, .tmp 46]) rfl ?_); at_builtin; refine Kd.R_append (Kd.int .i64) (w0 := W) (w.heap.size + 1) rfl (.tmp 44) (.tmp 46) 23 3 (.int .i64 0) 8 rfl Try.underlying23 info3 rfl (by decide) (by omega) (.slice Ae xe.length cpe) xe i [.int .i64 i] (fun k_ => oki k_ ∨ True ∧ W.heap.size ≤ k_) (fun _ => False) rfl rfl ?aP (fun _ hk => hk.elim) ?aF ?aO ?aB ?aS ?aL ?_; (case aP => exact rfl); (case aB => exact Below.refl _ _); (case aF => exact (fun k_ hk => .inr ⟨trivial, hk⟩)); (case aO => exact Kd.R_mono GE.out (fun _ hk => .inl hk)); (case aS => exact HZ1.out); (case aL => have := C9.out; omega); intro v4 w3 ho hb hg hat; obtain ⟨y, hy⟩ : ∃ y, y = xe ++ [i] := ⟨_, rfl⟩; rw [← hy] at ho H'; clear hy; have HO3 := Aside0.mk ho; have HH3 := Aside0.mk (Kd.H_grown (Kd.H_widen HH.out) hg (fun k_ e_ => .inl (GE.out.1 k_ e_))); have HB3 := Aside0.mk (HB1.out.trans (hb.mono (Nat.le_succ _))); have HM3 := Aside0.mk (HM1.out.kept hg (fun e_ => by have := Kd.R_base GE.out _ e_.symm; omega)); have HZ3 := Aside0.mk (Nat.le_trans HZ1.out hb.size); clear ho hb hg hat hcell;
                         obtain ⟨hcc3, hfr3⟩ := Kd.H_at HH3.out C7.out C8.out; have hcell3 := hcc3 0 _ rfl; have hfroz3 := hfr3 0; (try simp only [show ((Kd.slice 3 (Kd.int .i64))).sz = 1 from rfl, Nat.mul_one, Nat.add_zero] at hcell3 hfroz3); clear hcc3 hfr3; obtain ⟨A4, cp4, e4⟩ := Kd.R_slice HO3.out; subst e4))
                    have HP := Kd.S_seg0 HH3.out C7.out C8.out (seg := [.slice A4 y.length cp4]) (j := 0) (show 1 ≤ 1 from by decide) (x' := y) (Kd.M_row HO3.out) (fun _ hk => hk)
                    (try simp only [show ((Kd.slice 3 (Kd.int .i64))).sz = 1 from rfl, Nat.mul_one, Nat.add_zero] at HP)
                    have HP1 := Aside0.mk HP.1
                    have HP2 := Aside0.mk HP.2
                    clear HP
                    go_wp2
                    go_roundg k1
                    case measure => have := HK1.out; omega
                    case rel => exact ⟨_, _, D, n, rfl, H', ⟨by have := HK1.out; omega⟩, ⟨HP1.out⟩, ⟨HM3.out.kept HP2.out (fun e_ => by have := HGB.out; have e2 := Option.some.inj e_; omega)⟩, HN1, ⟨HB3.out.setCell (by have := HGB.out; simp; omega) _⟩, ⟨by simpa using HZ3.out⟩⟩
                  · rw [if_neg c9] at H
                    exact absurd H (by simp)
                · rw [if_neg c8] at H
                  exact absurd H (by simp)
              · rw [if_neg c7] at H
                exact absurd H (by simp)
            · rw [if_neg c5] at H
              replace c5 : Maps.has D kl = false := by simpa using c5
              by_cases c10 : x3.length < 5864062014805
              · rw [if_pos c10] at H
                have H' := Aside0.mk H
                have C10 := Aside0.mk c10
                clear H c10
                go_wp2_with (first
                  | (at_lookup; refine wpList_lookup_own_ok_int _ rfl _ _ 39 rfl 41 3 .i64 law41 Try.underlying39 Try.underlying3 (zero3 _) w.heap.size n D rfl ((HM.out.alloc _).alloc _) _ kl rfl HKEY.out ?_; rw [c5]; intro c hat hwc; clear hat hwc; refine letter2 (G := fun W => wpList _ _ _ _ _ W) ?_; intro W hbW hxW; have HO1 := Aside0.mk (Kd.S_below HO.out hbW); have HM1 := Aside0.mk (HM.out.kept (grown_of_below hbW none) (by simp)); have HB1 := Aside0.mk (below_then HB.out HB.out.size hbW); have HZ1 := Aside0.mk (Nat.le_trans HZ.out hbW.size);
                     have hk0 := (blk_cell hxW 0).trans rfl; have hk1 := (blk_cell hxW 1).trans rfl; have hk2 := (blk_cell hxW 2).trans rfl; have hk3 := (blk_cell hxW 3).trans rfl; clear hbW hxW)
                  | (at_mapUpdate; refine wpList_mapUpdate_own _ rfl _ _ _ 39 rfl 41 3 law41 Try.underlying39 _ w.heap.size n D rfl HM1.out (by have h1 := hmx.out; have h2 := HN.out; have h3 : i < (l0.length : Int) := of_decide_eq_true c2b0; unfold maxLen; omega) _ _ kl rfl rfl HKEY.out _ [] (plainElem_int Try.underlying3 (WalkArith.wf_i64 (by have := C10.out; omega))) ?_; intro w1 hown1 hgrow1;
                     have HO2 := Aside0.mk (Kd.S_mono (ok' := fun _ => True) (Kd.S_grown (Kd.S_bound HO1.out) hgrow1 (fun k_ hk_ e_ => by have h1 := hk_.2.1; have h2 := Option.some.inj e_; omega)) (fun _ _ => trivial)); have HB2 := Aside0.mk (pw_below_grown HB1.out _ HB1.out.size hgrow1 (fun k_ hk_ => by have h2 := Option.some.inj hk_; omega)); have HZ2 := Aside0.mk (Nat.le_trans HZ1.out hgrow1.size); have HM2 := Aside0.mk hown1; clear hown1 hgrow1 hk0 hk1 hk2 hk3)
                  | ((with_reducible refine gate_builtin (b := .append) (xs := #[.tmp 36, .tmp 37]) rfl ?_); at_builtin; refine Kd.S_append (Kd.slice 3 (Kd.int .i64)) (w0 := w1) (w.heap.size + 1) rfl (.tmp 36) (.tmp 37) 35 23 (.slice none 0 0) 24 rfl Try.underlying35 info23 rfl (by decide) (by omega) (.slice A3 x3.length cc3) x3 [] [.slice none 0 0] (fun _ => True) (fun _ => False) rfl (by first | (go_simp; done) | (go_simp; rfl)) ?aP (fun _ hk => hk.elim) ?aF ?aO ?aB ?aS ?aL ?_; (case aP => exact Kd.M_row (Kd.R_nil _ _ _ _ _)); (case aB => exact Below.refl _ _); (case aF => exact (fun _ _ => trivial)); (case aO => exact Kd.S_mono HO2.out (fun _ _ => ⟨trivial, fun h => h⟩)); (case aS => exact HZ2.out); (case aL => have := C10.out; omega); intro v5 w2 ho hb hg hat;
                     obtain ⟨y0, hy0⟩ : ∃ y0, y0 = x3 ++ [[]] := ⟨_, rfl⟩; rw [← hy0] at ho H'; have hyl : y0.length = x3.length + 1 := (by rw [hy0]; simp); obtain ⟨g, cap, hv5, hgb, hgl, _⟩ := Kd.S_form ho (by omega); cases hv5;
                     obtain ⟨oki, ce, hcl, hM1, hcc, hfr, hoki, hH⟩ := Kd.S_elem ho [] (x3.length : Int) (by omega) (by omega); rw [show y0.getD (x3.length : Int).toNat [] = [] from by rw [hy0]; simp] at hM1; obtain ⟨ve, rfl, ge⟩ := hM1; obtain ⟨Ae, cpe, rfl⟩ := Kd.R_slice ge; have hcell := hcc 0 _ rfl; (try simp only [show ((Kd.slice 3 (Kd.int .i64))).sz = 1 from rfl, Nat.mul_one, Nat.add_zero, Int.toNat_natCast, List.length_nil] at hcell);
                     have GE := Aside0.mk ge; have HH := Aside0.mk hH; have HGB := Aside0.mk hgb; have HYL := Aside0.mk hyl; have HB3 := Aside0.mk (HB2.out.trans (hb.mono (Nat.le_succ _))); have HM3 := Aside0.mk (HM2.out.kept hg (fun e_ => by have := Kd.S_base HO2.out _ e_.symm; omega)); have HZ3 := Aside0.mk (Nat.le_trans HZ2.out hb.size);
                     have hlt : x3.length < y0.length := (by omega); have hltd : decide (x3.length < y0.length) = true := decide_eq_true hlt; clear ho hb hg hat hy0 hyl hcl hcc hfr hoki ge hH hgb hgl)
                  | ((with_reducible refine gate_builtin (b := .append) (xs := #[.tmp 44, .tmp 46]) rfl ?_); at_builtin; refine Kd.R_append (Kd.int .i64) (w0 := w2) (w.heap.size + 1) rfl (.tmp 44) (.tmp 46) 23 3 (.int .i64 0) 8 rfl Try.underlying23 info3 rfl (by decide) (by omega) (.slice Ae 0 cpe) ([] : List Int) i [.int .i64 i] (fun k_ => oki k_ ∨ True ∧ w2.heap.size ≤ k_) (fun _ => False) rfl rfl ?aP (fun _ hk => hk.elim) ?aF ?aO ?aB ?aS ?aL ?_; (case aP => exact rfl); (case aB => exact Below.refl _ _); (case aF => exact (fun k_ hk => .inr ⟨trivial, hk⟩)); (case aO => exact Kd.R_mono GE.out (fun _ hk => .inl hk)); (case aS => exact HZ3.out); (case aL => simp); intro v4 w3 ho hb hg hat; obtain ⟨y, hy⟩ : ∃ y, y = ([] : List Int) ++ [i] := ⟨_, rfl⟩; rw [← hy] at ho; have HO4 := Aside0.mk ho; have HH4 := Aside0.mk (Kd.H_grown (Kd.H_widen HH.out) hg (fun k_ e_ => .inl (GE.out.1 k_ e_))); have HB4 := Aside0.mk (HB3.out.trans (hb.mono (Nat.le_succ _))); have HM4 := Aside0.mk (HM3.out.kept hg (fun e_ => by have := Kd.R_base GE.out _ e_.symm; omega)); have HZ4 := Aside0.mk (Nat.le_trans HZ3.out hb.size); rw [show ([i] : List Int) = y from by rw [hy]; rfl] at H'; clear ho hb hg hat hcell hy;
                     obtain ⟨hcc3, hfr3⟩ := Kd.H_at HH4.out (by omega) (by have := HYL.out; omega); have hcell3 := hcc3 0 _ rfl; have hfroz3 := hfr3 0; (try simp only [show ((Kd.slice 3 (Kd.int .i64))).sz = 1 from rfl, Nat.mul_one, Nat.add_zero, Int.toNat_natCast] at hcell3 hfroz3); clear hcc3 hfr3; obtain ⟨A4, cp4, e4⟩ := Kd.R_slice HO4.out; subst e4))
                have HP := Kd.S_seg0 HH4.out (show (0 : Int) ≤ (x3.length : Int) by omega) (show (x3.length : Int) < (y0.length : Int) by have := HYL.out; omega) (seg := [.slice A4 y.length cp4]) (j := 0) (show 1 ≤ 1 from by decide) (x' := y) (Kd.M_row HO4.out) (fun _ hk => hk)
                (try simp only [show ((Kd.slice 3 (Kd.int .i64))).sz = 1 from rfl, Nat.mul_one, Nat.add_zero, Int.toNat_natCast] at HP)
                have HP1 := Aside0.mk HP.1
                have HP2 := Aside0.mk HP.2
                clear HP
                have HN2 : Aside0 (((n + 1 : Nat) : Int) ≤ wrap64 (i + 1)) := ⟨by have h1 := hmx.out; have h2 := HN.out; have h3 : i < (l0.length : Int) := of_decide_eq_true c2b0; unfold wrap64; omega⟩
                go_roundg k1
                case measure => have := HK1.out; omega
                case rel => exact ⟨_, _, _, n + 1, rfl, H', ⟨by have := HK1.out; omega⟩, ⟨HP1.out⟩, ⟨HM4.out.kept HP2.out (fun e_ => by have := HGB.out; have e2 := Option.some.inj e_; omega)⟩, HN2, ⟨HB4.out.setCell (by have := HGB.out; simp; omega) _⟩, ⟨by simpa using HZ4.out⟩⟩
              · rw [if_neg c10] at H
                exact absurd H (by simp)
          · rw [if_neg c4] at H
            exact absurd H (by simp)
        · rw [if_neg c3] at H
          exact absurd H (by simp)
      · rw [if_neg c2] at H
        have c2b0 : decide (i < (l0.length : Int)) = false := decide_eq_false c2
        clear c2
        obtain rfl := Option.some.inj H
        go_wp2
        go_ret
        exact ⟨_, rfl, Kd.S_lower HO.out (Nat.le_succ _), HB.out⟩

end Go.Proofs.Ytbogookhndaeeaa.PP
