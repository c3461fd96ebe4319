/-
  Proved: a part of the proof of the claim's statement (text Q19 of it).
  Conditions: none of ours.
-/
import Derived.Test.YtikmmigfdchcpaaDoorPeQ0
import Derived.Test.YtikmmigfdchcpaaDoorPeQ17
import Derived.Test.YtikmmigfdchcpaaDoorPeQ18
namespace Go.Proofs.YtikmmigfdchcpaaDoor.PP
open Go.RowKit Go.Proofs.YtikmmigfdchcpaaDoorW.PrintWords Go.Proofs.YtikmmigfdchcpaaDoorW.PrintLast Go.Proofs.YtikmmigfdchcpaaDoorW.PrintMore
set_option linter.unusedVariables false
set_option linter.unusedSimpArgs false
def zbc.l0 : Nat → List Int → Int → Int → Int → Int → ByteArray → Int → Bool → Option (List Int × Bool)
 | 0, _, _, _, _, _, _, _, _ => none
 | k + 1, x8, x20, x21, x114000, x114001, x114002, x114003, x114004 => if x21 < x20 then (if 0 ≤ x21 then (if x21 < (x114002.size : Int) then ((sign_domain.f (bt x114002 x21)).bind fun t114 => (if x8.length < 17592186044416 then (zbc.l0 k (x8 ++ [t114]) x20 (wrap64 (x21 + 1)) x114000 x114001 x114002 x114003 x114004) else (none))) else (none)) else (none)) else (some (x8, true))
def zbc.f (k : Nat) (a0 : Int) (a1 : Int) : Option (List Int × Bool) := (zbl.f a0 a1).bind fun bt107 => (if bt107.2.2.2.2.2 = true then (zbc.l0 k ([] : List Int) (bt107.2.2.1.size : Int) 0 bt107.1 bt107.2.1 bt107.2.2.1 bt107.2.2.2.1 bt107.2.2.2.2.1) else (some (([] : List Int), false)))
theorem zbc.mono_l : ∀ k, (∀ y0 y1 y2 y3 y4 y5 y6 y7, LeO (zbc.l0 k y0 y1 y2 y3 y4 y5 y6 y7) (zbc.l0 (k + 1) y0 y1 y2 y3 y4 y5 y6 y7))
 | 0 => fun _ _ _ _ _ _ _ _ r h => by simp [zbc.l0] at h
 | k + 1 => by
  have ih0 := zbc.mono_l k
  ·intro y0 y1 y2 y3 y4 y5 y6 y7
   unfold zbc.l0
   repeat' first
   | (with_reducible exact ih0 _ _ _ _ _ _ _ _)
   | (with_reducible exact LeO.refl _)
   | (with_reducible exact LeO.none _)
   | (with_reducible refine LeO.ite ?_ ?_)
   | (with_reducible refine LeO.bind ?_ (fun _ => ?_))
   | exact ih0 _ _ _ _ _ _ _ _
   | exact LeO.none _
   | refine LeO.ite ?_ ?_
   | refine LeO.bind ?_ (fun _ => ?_)
theorem zbc.mono : ∀ a0 a1 k, LeO (zbc.f k a0 a1) (zbc.f (k + 1) a0 a1) := by
 intro a0 a1 k
 have ih0 := zbc.mono_l k
 unfold zbc.f
 repeat' first
   | (with_reducible exact ih0 _ _ _ _ _ _ _ _)
   | (with_reducible exact LeO.refl _)
   | (with_reducible exact LeO.none _)
   | (with_reducible refine LeO.ite ?_ ?_)
   | (with_reducible refine LeO.bind ?_ (fun _ => ?_))
   | exact ih0 _ _ _ _ _ _ _ _
   | exact LeO.none _
   | refine LeO.ite ?_ ?_
   | refine LeO.bind ?_ (fun _ => ?_)
set_option maxHeartbeats 8000000 in
set_option maxRecDepth 100000 in
theorem zbc.calls (k : Nat) (a0 : Int) (a1 : Int) (r1 : List Int) (r2 : Bool) (w : World) (h : zbc.f k a0 a1 = some (r1, r2)) :
  Calls Tryd.prog 42 #[.int .i64 a0, .int .i64 a1] w fun e w' => ∃ v0_ : Value, e = .returned (.tuple #[v0_, .bool r2]) ∧ Kd.R (Kd.int .i64) 3 w' w.heap.size (fun _ => True) v0_ r1 ∧ Below w.heap.size w w' := by
 have hu78 := Tryd.underlying78
 have HB := zab.mk (Below.refl w.heap.size w)
 have H : ((zbl.f a0 a1).bind fun bt107 => (if bt107.2.2.2.2.2 = true then (zbc.l0 k ([] : List Int) (bt107.2.2.1.size : Int) 0 bt107.1 bt107.2.1 bt107.2.2.1 bt107.2.2.2.1 bt107.2.2.2.2.1) else (some (([] : List Int), false)))) = some (r1, r2) := h
 clear h
 replace H := Option.bind_eq_some_iff.mp H
 obtain ⟨⟨t107, t108, t109, t110, t111, t112⟩, A30, H⟩ := H
 replace H : (if t112 = true then (zbc.l0 k ([] : List Int) (t109.size : Int) 0 t107 t108 t109 t110 t111) else (some (([] : List Int), false))) = some (r1, r2) := H
 have A3 := zab.mk A30
 clear A30
 by_cases c4 : t112 = true
 ·subst c4
  have H1 : (zbc.l0 k ([] : List Int) (t109.size : Int) 0 t107 t108 t109 t110 t111) = some (r1, r2) := by rw [if_pos rfl] at H; exact H
  clear H
  have H := H1
  clear H1
  have H' := zab.mk H
  clear H
  go_enter Tryd.func42, Tryd.ntmps42
  go_wp2_with (first | ((with_reducible refine za6 (f := 45) rfl ?_); refine zbo (some 13) rfl rfl Tryd.func45 (by kernel_rfl) rfl #[.int .i64 a0, .int .i64 a1] rfl (by (try simp only [List.map_toArray, List.map_cons, List.map_nil]); first | done | rfl | (simp only [List.length_drop, List.length_take]; rfl)) ?_; (with_reducible refine (zbl.calls a0 a1 t107 t108 t109 t110 t111 true _ A3.out).mono ?_); rintro e w5 ⟨rfl, hb⟩; refine ⟨_, rfl, ?_⟩; have n0_ := zab.mk (zal (by repeat with_reducible first | exact HB.out | apply zac | apply zaa | apply zad) hb); clear HB; have HB := n0_; clear n0_; (try clear hb); (try clear hb2); (try clear hk); (try clear hi)) | ((with_reducible refine za2 (N := 6) rfl ?_); refine zay ?hg (N := 6) ?hd (cs := #[.int .i64 0, .int .i64 0, .string (⟨#[]⟩ : ByteArray), .int .i64 0, .bool false]) (t := 78) ?hr ?_; (case hd => rfl); (case hg => rfl); (case hr => first | (go_simp; done) | (go_simp; rfl)); intro gb113 hg w6 hbox hb; have n0_ := zab.mk (zal (by repeat with_reducible first | exact HB.out | apply zac | apply zaa | apply zad) hb); have n1_ := zab.mk (hbox); have n2_ := zab.mk ((by rw [hg]; exact (zaq (by repeat with_reducible first | exact HB.out | apply zac | apply zaa | apply zad)) : w.heap.size ≤ gb113)); have n3_ := n2_; clear HB; have HB := n0_; have BK113 := n1_; have GW113 := n2_; have GE113 := n3_; clear n0_ n1_ n2_ n3_; clear hb hbox hg; obtain ⟨d7_0, d7_1, d7_2, d7_3, d7_4⟩ := cq5 BK113.out; obtain ⟨e7_0, e7_1, e7_2, e7_3, e7_4⟩ := fq5 BK113.out))
  go_loopg [8, 21] k (fun kq v8 v21 w' => ∃ (x8_1 : List Int) (x21_1 : Int), v21 = .int .i64 x21_1 ∧ zab (zbc.l0 kq x8_1 (t109.size : Int) x21_1 t107 t108 t109 t110 t111 = some (r1, r2)) ∧ zab (kq ≤ k) ∧ zab (Kd.R (Kd.int .i64) 3 w' w.heap.size (fun _ => True) v8 x8_1) ∧ zab (w'.heap[gb113]? = some (.cells #[.int .i64 t107, .int .i64 t108, .string t109, .int .i64 t110, .bool t111] 78 (0, 0))) ∧ zab (Below w.heap.size w w'))
  case atStart => exact ⟨(([] : List Int)), (0), (by first | rfl | (simp; done) | (simp [*]; done)), H', ⟨Nat.le_refl _⟩, ⟨by first | exact Kd.R_nil _ _ _ _ _ | exact Kd.N_nil _ _ _ _ _ | exact Kd.V_nil _ _ _ _ _ | exact Kd.Q_nil _ _ _ _ _ | exact Kd.S_nil _ _ _ _ _⟩, ⟨by (with_reducible repeat (first | refine zaj ?_ _ | refine zam ?_ | refine zak ?_ _)); refine pq5 (.int .i64 0) (.int .i64 0) (.string (⟨#[]⟩ : ByteArray)) (.int .i64 0) (.bool false) ?_; (with_reducible repeat (first | refine zaj ?_ _ | refine zam ?_ | refine zak ?_ _)); exact BK113.out⟩, ⟨by repeat with_reducible first | exact HB.out | apply zac | apply zaa | apply zad | refine zag ?_ GE113.out⟩⟩
  case round =>
   clear H'
   try clear p2
   try clear c4
   try clear d7_0 d7_1 d7_2 d7_3 d7_4
   try clear e7_0 e7_1 e7_2 e7_3 e7_4
   obtain ⟨x8_1, x21_1, rfl, HA, HK1, HO_8, BK113, HB⟩ := hrel
   cases gk with
   | zero => exact absurd HA.out (by simp [zbc.l0])
   | succ k1 =>
    have H := HA.out
    clear HA
    simp only [zbc.l0] at H
    by_cases c8 : x21_1 < (t109.size : Int)
    ·rw [if_pos c8] at H
     have c8b0 : decide (x21_1 < (t109.size : Int)) = true := decide_eq_true c8
     clear c8
     by_cases c9 : 0 ≤ x21_1
     ·rw [if_pos c9] at H
      have c9b0 : decide (0 ≤ x21_1) = true := decide_eq_true c9
      clear c9
      by_cases c10 : x21_1 < (t109.size : Int)
      ·rw [if_pos c10] at H
       have c10b0 : decide (x21_1 < (t109.size : Int)) = true := decide_eq_true c10
       clear c10
       replace H := Option.bind_eq_some_iff.mp H
       obtain ⟨t114, A120, H⟩ := H
       replace H : (if x8_1.length < 17592186044416 then (zbc.l0 k1 (x8_1 ++ [t114]) (t109.size : Int) (wrap64 (x21_1 + 1)) t107 t108 t109 t110 t111) else (none)) = some (r1, r2) := H
       have A12 := zab.mk A120
       clear A120
       by_cases c13 : x8_1.length < 17592186044416
       ·rw [if_pos c13] at H
        have LMc13 := zab.mk c13
        clear c13
        obtain ⟨y115, hy115⟩ : ∃ y_ : List Int, y_ = (x8_1 ++ [t114]) := ⟨_, rfl⟩
        replace H : (zbc.l0 k1 y115 (t109.size : Int) (wrap64 (x21_1 + 1)) t107 t108 t109 t110 t111) = some (r1, r2) := by first | (rw [hy115]; with_reducible exact H) | (have H2_ := (Option.bind_some _ _).symm.trans H; rw [hy115]; with_reducible exact H2_) | (have H2_ := (Option.bind_some _ _).symm.trans H; with_reducible exact H2_) | with_reducible exact H | (rw [hy115]; exact H) | exact H
        have Ny115 := zab.mk hy115
        clear hy115
        have H' := zab.mk H
        clear H
        obtain ⟨d14_0, d14_1, d14_2, d14_3, d14_4⟩ := cq5 BK113.out
        obtain ⟨e14_0, e14_1, e14_2, e14_3, e14_4⟩ := fq5 BK113.out
        have p11 : 0 ≤ (x21_1 : Int) := of_decide_eq_true (by first | (with_reducible assumption) | assumption)
        have q11 : x21_1 < (t109.size : Int) := of_decide_eq_true (by first | (with_reducible assumption) | assumption)
        have hx11 := bt_at t109 x21_1
        replace p11 := eq_true p11
        replace q11 := eq_true q11
        go_wp2_with (first | ((with_reducible refine za6 (f := 51) rfl ?_); refine zbo (some 29) rfl rfl Tryd.func51 (by kernel_rfl) rfl #[.int .u8 (bt t109 x21_1)] rfl (by (try simp only [List.map_toArray, List.map_cons, List.map_nil]); first | done | rfl | (simp only [List.length_drop, List.length_take]; rfl)) ?_; (with_reducible refine (sign_domain.calls (bt t109 x21_1) t114 _ A12.out).mono ?_); rintro e w' ⟨rfl, ⟨nd, rfl⟩⟩; refine ⟨_, rfl, ?_⟩) | ((with_reducible refine zb2 (b := .append) (xs := #[.tmp 24, .tmp 30]) rfl ?_); at_builtin; refine Kd.R_append (Kd.int .i64) (w0 := w) w.heap.size rfl (.tmp 24) (.tmp 30) 55 3 (.int .i64 0) 8 rfl Tryd.underlying55 info3 rfl (by decide) (by omega) u8 x8_1 t114 [.int .i64 t114] (fun _ => True) (fun _ => False) rfl rfl ?aP (fun _ hk => hk.elim) ?aF ?aO ?aB ?aS ?aL ?_; (case aP => exact rfl); (case aB => exact (by repeat with_reducible first | exact HB.out | apply zac | apply zaa | apply zad | refine zag ?_ GE113.out)); (case aF => exact (fun _ _ => trivial)); (case aO => exact (by (with_reducible repeat (first | apply Kd.R_alloc | apply Kd.zbs | apply Kd.R_drew)); exact HO_8.out)); (case aS => exact (zaq (by repeat with_reducible first | exact HB.out | apply zac | apply zaa | apply zad | refine zag ?_ GE113.out))); (case aL => have := LMc13.out; omega); intro v116 w15 ho hb hg hat; rw [← Ny115.out] at ho; have n0_ := zab.mk (blk_grown (g := gb113) (o := .cells #[.int .i64 t107, .int .i64 t108, .string t109, .int .i64 t110, .bool t111] 78 (0, 0)) (by (with_reducible repeat (first | refine zaj ?_ _ | refine zam ?_ | refine zak ?_ _)); exact BK113.out) hg (Kd.R_ne HO_8.out BK113.out (by decide))); have n1_ := zab.mk (hb); have n2_ := zab.mk (ho); clear BK113; clear HB; clear HO_8; have BK113 := n0_; have HB := n1_; have HO117 := n2_; clear n0_ n1_ n2_; clear ho hb hg hat))
        go_roundg k1
        case measure => have := HK1.out; omega
        case rel => exact ⟨(y115), (wrap64 (x21_1 + 1)), (by first | rfl | (simp; done) | (simp [*]; done)), H', ⟨by have := HK1.out; omega⟩, ⟨by (with_reducible repeat (first | apply Kd.R_alloc | apply Kd.zbs | apply Kd.R_drew)); exact HO117.out⟩, ⟨by (with_reducible repeat (first | refine zaj ?_ _ | refine zam ?_ | refine zak ?_ _)); exact BK113.out⟩, ⟨by repeat with_reducible first | exact HB.out | apply zac | apply zaa | apply zad | refine zag ?_ GE113.out⟩⟩
       ·rw [if_neg c13] at H
        exact absurd H (by simp)
      ·rw [if_neg c10] at H
       exact absurd H (by simp)
     ·rw [if_neg c9] at H
      exact absurd H (by simp)
    ·rw [if_neg c8] at H
     have c8b0 : decide (x21_1 < (t109.size : Int)) = false := decide_eq_false c8
     clear c8
     simp only [Option.some.injEq, Prod.mk.injEq] at H
     obtain ⟨rfl, rfl⟩ := H
     go_wp2
     go_ret2
     exact ⟨_, by first | rfl | (simp [zao, zan] <;> rfl) | (simp [*, zao, zan] <;> rfl), by (with_reducible repeat (first | apply Kd.R_alloc | apply Kd.zbs | apply Kd.R_drew)); exact HO_8.out, by repeat with_reducible first | exact HB.out | apply zac | apply zaa | apply zad | refine zag ?_ GE113.out⟩
 ·replace c4 := Bool.eq_false_iff.mpr c4
  subst c4
  have H1 : (some (([] : List Int), false)) = some (r1, r2) := by rw [if_neg (show ¬ (false = true) by decide)] at H; exact H
  clear H
  have H := H1
  clear H1
  simp only [Option.some.injEq, Prod.mk.injEq] at H
  obtain ⟨rfl, rfl⟩ := H
  go_enter Tryd.func42, Tryd.ntmps42
  go_wp2_with (first | ((with_reducible refine za6 (f := 45) rfl ?_); refine zbo (some 13) rfl rfl Tryd.func45 (by kernel_rfl) rfl #[.int .i64 a0, .int .i64 a1] rfl (by (try simp only [List.map_toArray, List.map_cons, List.map_nil]); first | done | rfl | (simp only [List.length_drop, List.length_take]; rfl)) ?_; (with_reducible refine (zbl.calls a0 a1 t107 t108 t109 t110 t111 false _ A3.out).mono ?_); rintro e w16 ⟨rfl, hb⟩; refine ⟨_, rfl, ?_⟩; have n0_ := zab.mk (zal (by repeat with_reducible first | exact HB.out | apply zac | apply zaa | apply zad) hb); clear HB; have HB := n0_; clear n0_; (try clear hb); (try clear hb2); (try clear hk); (try clear hi)) | ((with_reducible refine za2 (N := 6) rfl ?_); refine zay ?hg (N := 6) ?hd (cs := #[.int .i64 0, .int .i64 0, .string (⟨#[]⟩ : ByteArray), .int .i64 0, .bool false]) (t := 78) ?hr ?_; (case hd => rfl); (case hg => rfl); (case hr => first | (go_simp; done) | (go_simp; rfl)); intro gb113 hg w17 hbox hb; have n0_ := zab.mk (zal (by repeat with_reducible first | exact HB.out | apply zac | apply zaa | apply zad) hb); have n1_ := zab.mk (hbox); have n2_ := zab.mk ((by rw [hg]; exact (zaq (by repeat with_reducible first | exact HB.out | apply zac | apply zaa | apply zad)) : w.heap.size ≤ gb113)); have n3_ := n2_; clear HB; have HB := n0_; have BK113 := n1_; have GW113 := n2_; have GE113 := n3_; clear n0_ n1_ n2_ n3_; clear hb hbox hg; obtain ⟨d18_0, d18_1, d18_2, d18_3, d18_4⟩ := cq5 BK113.out; obtain ⟨e18_0, e18_1, e18_2, e18_3, e18_4⟩ := fq5 BK113.out))
  go_ret2
  exact ⟨_, by first | rfl | (simp [zao, zan] <;> rfl) | (simp [*, zao, zan] <;> rfl), by first | exact Kd.R_nil _ _ _ _ _ | exact Kd.N_nil _ _ _ _ _ | exact Kd.V_nil _ _ _ _ _ | exact Kd.Q_nil _ _ _ _ _ | exact Kd.S_nil _ _ _ _ _, by repeat with_reducible first | exact HB.out | apply zac | apply zaa | apply zad | refine zag ?_ GE113.out⟩
end Go.Proofs.YtikmmigfdchcpaaDoor.PP
