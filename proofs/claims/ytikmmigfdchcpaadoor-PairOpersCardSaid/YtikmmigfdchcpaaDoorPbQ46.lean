import Derived.Test.YtikmmigfdchcpaaDoorPbQ0
import Derived.Test.YtikmmigfdchcpaaDoorPbQ902
import Derived.Test.YtikmmigfdchcpaaDoorPbQ41
import Derived.Test.YtikmmigfdchcpaaDoorPbQ42
/-
  Proved: a part of the proof of the claim's statement (text Q46 of it).
  Conditions: none of ours.
-/
namespace Go.Proofs.YtikmmigfdchcpaaDoor.PP
open Go.RowKit Go.Proofs.YtikmmigfdchcpaaDoorW.PrintWords Go.Proofs.YtikmmigfdchcpaaDoorW.PrintLast Go.Proofs.YtikmmigfdchcpaaDoorW.PrintMore
set_option linter.unusedVariables false
set_option linter.unusedSimpArgs false
attribute [local go_sem high] eqA38
/-! ### zat: function 31 -/
mutual
def zat.j0 : Nat → List (S38) → Bool → List Int → Int → Bool → Bool → Option (List Int × Bool)
 | 0, _, _, _, _, _, _ => none
 | k + 1, x2, x23, x265000, x265001, x265002, x265003 => if x23 = true then (if x265003 = true then (some (([] : List Int), ((x2.length : Int) == 0))) else (some (([] : List Int), false))) else (if x265001 = 99 then (zat.l0 k x2 ([] : List Int) 0) else (if (x2.length : Int) = 1 then (if 0 < (x2.length : Int) then ((za1.f k x265001 ((zap x2 0).f0) ((zap x2 0).f1) ((zap x2 0).f2)).bind fun t272 => (if t272 = true then (some ((([x265001] : List Int)), true)) else (if x265002 = true then (if (((zap x2 0).f0) == 0 && (((zap x2 0).f1) == 0 && ((((zap x2 0).f2).toList) == ([] : List UInt8)))) = true then (some ((([x265001] : List Int)), true)) else (some (([] : List Int), false))) else (some (([] : List Int), false))))) else (none)) else (some (([] : List Int), false))))
def zat.l0 : Nat → List (S38) → List Int → Int → Option (List Int × Bool)
 | 0, _, _, _ => none
 | k + 1, x2, x9, x10 => if x10 < (x2.length : Int) then (if 0 ≤ x10 then ((za1.f k (wrap64 (4 - (wrap64 ((Int.tmod x10 2) * 2)))) ((zap x2 x10).f0) ((zap x2 x10).f1) ((zap x2 x10).f2)).bind fun t266 => (if t266 = true then (if x9.length < 17592186044416 then (zat.l0 k x2 (x9 ++ [wrap64 (4 - (wrap64 ((Int.tmod x10 2) * 2)))]) (wrap64 (x10 + 1))) else (none)) else (some (([] : List Int), false)))) else (none)) else (if ((x9.length : Int) % 2) = 1 then (some (([] : List Int), false)) else (some (x9, true)))
end
def zat.f (k : Nat) (a0 : Int) (a1 : Int) (l2 : List (S38)) : Option (List Int × Bool) := (zan.f k a0 a1).bind fun bt258 => (if bt258.2.2.2 = true then (zat.j0 k l2 (decide (bt258.2.1 < 0)) bt258.1 bt258.2.1 bt258.2.2.1 bt258.2.2.2) else (zat.j0 k l2 true bt258.1 bt258.2.1 bt258.2.2.1 bt258.2.2.2))
def zat.T19 : Bool × List (List Nat × List Nat) := (true, [([], []), ([0], [0]), ([], []), ([2], [2]), ([3], [3]), ([1, 4], [1, 4]), ([5, 5], [5]), ([6], [6]), ([7, 6], [6, 7]), ([8, 6, 6], [6, 8]), ([9], [9]), ([10, 9], [9, 10]), ([11, 9], [9, 11]), ([9], [9]), ([12, 13, 9], [9, 12, 13]), ([9, 14, 6], [6, 9, 14]), ([6, 15], [6, 15])])
def zat.B19 : List Nat := [0, 1, 0, 4, 12, 31, 63, 127, 255, 511, 1023, 2047, 4095, 1023, 16383, 32767, 65535]
theorem zat.tab19 : rtab .any (opsOf Tryd.f31 19) = zat.T19 := by kernel_rfl
theorem zat.bits19 : waitsOk zat.T19.2 zat.B19 = true := by kernel_rfl
set_option maxHeartbeats 8000000 in
set_option maxRecDepth 100000 in
theorem zat.calls (k : Nat) (a0 : Int) (a1 : Int) (A2 : Option Addr) (c2 : Nat) (l2 : List (S38)) (r1 : List Int) (r2 : Bool) (w : World) (hr2 : Kd.C k38 w A2 l2.length l2) (hc2 : l2.length ≤ c2) (h : zat.f k a0 a1 l2 = some (r1, r2)) :
  Calls Tryd.prog 31 #[.int .i64 a0, .int .i64 a1, .slice A2 l2.length c2] w fun e w' => ∃ v0_ : Value, e = .returned (.tuple #[v0_, .bool r2]) ∧ Kd.R (Kd.int .i64) 3 w' w.heap.size (fun _ => True) v0_ r1 ∧ Below w.heap.size w w' := by
 have hu72 := Tryd.underlying72
 have hu38 := Tryd.underlying38
 have HR2 := zae.mk hr2
 have HC2 := zae.mk hc2
 clear hr2 hc2
 have HB := zae.mk (Below.refl w.heap.size w)
 have H : ((zan.f k a0 a1).bind fun bt258 => (if bt258.2.2.2 = true then (zat.j0 k l2 (decide (bt258.2.1 < 0)) bt258.1 bt258.2.1 bt258.2.2.1 bt258.2.2.2) else (zat.j0 k l2 true bt258.1 bt258.2.1 bt258.2.2.1 bt258.2.2.2))) = some (r1, r2) := h
 clear h
 replace H := Option.bind_eq_some_iff.mp H
 obtain ⟨⟨t258, t261, t262, t263⟩, A40, H⟩ := H
 replace H : (if t263 = true then (zat.j0 k l2 (decide (t261 < 0)) t258 t261 t262 t263) else (zat.j0 k l2 true t258 t261 t262 t263)) = some (r1, r2) := H
 have A4 := zae.mk A40
 clear A40
 have HC5 := zae.mk H
 clear H
 go_enter Tryd.func31, Tryd.ntmps31
 go_upto_region 2 with (first | ((with_reducible refine za3 (f := 38) rfl ?_); refine zbv (some 15) rfl rfl Tryd.func38 (by kernel_rfl) rfl #[.int .i64 a0, .int .i64 a1] rfl (by (try simp only [List.map_toArray, List.map_cons, List.map_nil]); first | done | rfl | (simp only [List.length_drop, List.length_take]; rfl)) ?_; (with_reducible refine (zan.calls k a0 a1 t258 t261 t262 t263 _ A4.out).mono ?_); rintro e w6 ⟨v259, rfl, ho0, hb⟩; refine ⟨_, rfl, ?_⟩; have n0_ := zae.mk (Kd.zcd ho0 (zav (by repeat with_reducible first | exact HB.out | apply zad | apply zaa | apply zac))); have n1_ := zae.mk (zaq (by repeat with_reducible first | exact HB.out | apply zad | apply zaa | apply zac) hb); clear HB; have HO260 := n0_; have HB := n1_; clear n0_ n1_; (try clear hb); (try clear hb2); (try clear hk); (try clear hi); (try clear ho0)) | ((with_reducible refine za8 (N := 8) rfl ?_); (try (refine zcg (by rfl) ?_; dsimp only)); refine za7 ?hg (N := 8) ?hd (cs := #[.slice none 0 0, .int .i64 0, .bool false, .bool false]) (t := 72) ?hr ?_; (case hd => rfl); (case hg => rfl); (case hr => first | (go_simp; done) | (go_simp; rfl)); intro gb264 hg w7 hbox hb; have n0_ := zae.mk (Kd.zb8 (by (with_reducible repeat (first | apply Kd.R_alloc | apply Kd.zbm | apply Kd.zbs)); exact HO260.out) hb); have n1_ := zae.mk (zaq (by repeat with_reducible first | exact HB.out | apply zad | apply zaa | apply zac) hb); have n2_ := zae.mk (hbox); have n3_ := zae.mk ((by rw [hg]; exact (zav (by repeat with_reducible first | exact HB.out | apply zad | apply zaa | apply zac)) : w.heap.size ≤ gb264)); have n4_ := zae.mk ((by rw [hg]; exact (zav (by repeat with_reducible first | exact HB.out | apply zad | apply zaa | apply zac)) : w.heap.size ≤ gb264)); clear HO260; clear HB; have HO260 := n0_; have HB := n1_; have BK264 := n2_; have GW264 := n3_; have GE264 := n4_; clear n0_ n1_ n2_ n3_ n4_; clear hb hbox hg; obtain ⟨Ao8, co8, eo8⟩ := Kd.zch HO260.out; subst eo8; obtain ⟨d9_0, d9_1, d9_2, d9_3⟩ := cq4 BK264.out; obtain ⟨e9_0, e9_1, e9_2, e9_3⟩ := fq4 BK264.out))
 (try simp only [Act.put, List.setIfInBounds_toArray, List.set_cons_zero, List.set_cons_succ])
 go_cut [23] (fun v23 wc => ∃ (kq : Nat) (x23_4 : Bool), v23 = .bool x23_4 ∧ zae (zat.j0 kq l2 x23_4 t258 t261 t262 t263 = some (r1, r2)) ∧ zae (kq ≤ k) ∧ zae (Kd.R (Kd.int .i64) 3 wc w.heap.size (fun _ => True) (.slice Ao8 t258.length co8) t258) ∧ zae (wc.heap[gb264]? = some (.cells #[(.slice Ao8 t258.length co8), .int .i64 t261, .bool t262, .bool t263] 72 (0, 0))) ∧ zae (Below w.heap.size w wc))
 case first =>
  have H := HC5.out
  clear HC5
  by_cases c10 : t263 = true
  ·subst c10
   have H1 : (zat.j0 k l2 (decide (t261 < 0)) t258 t261 t262 true) = some (r1, r2) := by rw [if_pos rfl] at H; exact H
   clear H
   have H := H1
   clear H1
   have H' := zae.mk H
   clear H
   obtain ⟨d11_0, d11_1, d11_2, d11_3⟩ := cq4 BK264.out
   obtain ⟨e11_0, e11_1, e11_2, e11_3⟩ := fq4 BK264.out
   go_wp2
   go_meet
   case rel => exact ⟨_, (decide (t261 < 0)), (by first | rfl | (simp; done) | (simp [*]; done)), H', ⟨by first | omega | exact Nat.le_refl _⟩, ⟨by (with_reducible repeat (first | apply Kd.R_alloc | apply Kd.zbm | apply Kd.zbs)); exact Kd.zcb (Kd.R_far (p := ⟨gb264, 3, none⟩) (Kd.R_far (p := ⟨gb264, 2, none⟩) (Kd.R_far (p := ⟨gb264, 1, none⟩) (Kd.R_far (p := ⟨gb264, 0, none⟩) (Kd.zck HO260.out BK264.out (by decide)) (fun _ hk => hk.2) (.slice Ao8 t258.length co8)) (fun _ hk => hk.2) (.int .i64 t261)) (fun _ hk => hk.2) (.bool t262)) (fun _ hk => hk.2) (.bool true)) (fun _ hk => trivial)⟩, ⟨by (with_reducible repeat (first | refine zai ?_ _ | refine zak ?_ | refine zaj ?_ _)); refine pq4 (.slice none 0 0) (.int .i64 0) (.bool false) (.bool false) ?_; (with_reducible repeat (first | refine zai ?_ _ | refine zak ?_ | refine zaj ?_ _)); exact BK264.out⟩, ⟨by repeat with_reducible first | exact HB.out | apply zad | apply zaa | apply zac | refine zag ?_ GE264.out⟩⟩
  ·replace c10 := Bool.eq_false_iff.mpr c10
   subst c10
   have H1 : (zat.j0 k l2 true t258 t261 t262 false) = some (r1, r2) := by rw [if_neg (show ¬ (false = true) by decide)] at H; exact H
   clear H
   have H := H1
   clear H1
   have H' := zae.mk H
   clear H
   obtain ⟨d12_0, d12_1, d12_2, d12_3⟩ := cq4 BK264.out
   obtain ⟨e12_0, e12_1, e12_2, e12_3⟩ := fq4 BK264.out
   go_wp2
   go_meet
   case rel => exact ⟨_, (true), (by first | rfl | (simp; done) | (simp [*]; done)), H', ⟨by first | omega | exact Nat.le_refl _⟩, ⟨by (with_reducible repeat (first | apply Kd.R_alloc | apply Kd.zbm | apply Kd.zbs)); exact Kd.zcb (Kd.R_far (p := ⟨gb264, 3, none⟩) (Kd.R_far (p := ⟨gb264, 2, none⟩) (Kd.R_far (p := ⟨gb264, 1, none⟩) (Kd.R_far (p := ⟨gb264, 0, none⟩) (Kd.zck HO260.out BK264.out (by decide)) (fun _ hk => hk.2) (.slice Ao8 t258.length co8)) (fun _ hk => hk.2) (.int .i64 t261)) (fun _ hk => hk.2) (.bool t262)) (fun _ hk => hk.2) (.bool false)) (fun _ hk => trivial)⟩, ⟨by (with_reducible repeat (first | refine zai ?_ _ | refine zak ?_ | refine zaj ?_ _)); refine pq4 (.slice none 0 0) (.int .i64 0) (.bool false) (.bool false) ?_; (with_reducible repeat (first | refine zai ?_ _ | refine zak ?_ | refine zaj ?_ _)); exact BK264.out⟩, ⟨by repeat with_reducible first | exact HB.out | apply zad | apply zaa | apply zac | refine zag ?_ GE264.out⟩⟩
 case rest =>
  clear HC5
  try clear c1
  try clear c2
  try clear p2
  try clear c3
  try clear c10
  try clear d11_0 d11_1 d11_2 d11_3
  try clear d12_0 d12_1 d12_2 d12_3
  try clear d9_0 d9_1 d9_2 d9_3
  try clear e11_0 e11_1 e11_2 e11_3
  try clear e12_0 e12_1 e12_2 e12_3
  try clear e9_0 e9_1 e9_2 e9_3
  obtain ⟨kq, x23_4, rfl, HA, HJ4, HO_265000, BK264, HB⟩ := hcut
  cases kq with
  | zero => exact absurd HA.out (by simp [zat.j0])
  | succ kj4 =>
   have H := HA.out
   clear HA
   simp only [zat.j0] at H
   by_cases c13 : x23_4 = true
   ·subst c13
    have H1 : (if t263 = true then (some (([] : List Int), ((l2.length : Int) == 0))) else (some (([] : List Int), false))) = some (r1, r2) := by rw [if_pos rfl] at H; exact H
    clear H
    have H := H1
    clear H1
    by_cases c14 : t263 = true
    ·subst c14
     have H1 : (some (([] : List Int), ((l2.length : Int) == 0))) = some (r1, r2) := by rw [if_pos rfl] at H; exact H
     clear H
     have H := H1
     clear H1
     simp only [Option.some.injEq, Prod.mk.injEq] at H
     obtain ⟨rfl, rfl⟩ := H
     obtain ⟨d15_0, d15_1, d15_2, d15_3⟩ := cq4 BK264.out
     obtain ⟨e15_0, e15_1, e15_2, e15_3⟩ := fq4 BK264.out
     go_wp2
     go_ret2
     exact ⟨_, by first | rfl | (simp [zam, zal] <;> rfl) | (simp [*, zam, zal] <;> rfl), by first | exact Kd.R_nil _ _ _ _ _ | exact Kd.N_nil _ _ _ _ _ | exact Kd.V_nil _ _ _ _ _ | exact Kd.Q_nil _ _ _ _ _ | exact Kd.S_nil _ _ _ _ _, by repeat with_reducible first | exact HB.out | apply zad | apply zaa | apply zac | refine zag ?_ GE264.out⟩
    ·replace c14 := Bool.eq_false_iff.mpr c14
     subst c14
     have H1 : (some (([] : List Int), false)) = some (r1, r2) := by rw [if_neg (show ¬ (false = true) by decide)] at H; exact H
     clear H
     have H := H1
     clear H1
     simp only [Option.some.injEq, Prod.mk.injEq] at H
     obtain ⟨rfl, rfl⟩ := H
     obtain ⟨d16_0, d16_1, d16_2, d16_3⟩ := cq4 BK264.out
     obtain ⟨e16_0, e16_1, e16_2, e16_3⟩ := fq4 BK264.out
     go_wp2
     go_ret2
     exact ⟨_, by first | rfl | (simp [zam, zal] <;> rfl) | (simp [*, zam, zal] <;> rfl), by first | exact Kd.R_nil _ _ _ _ _ | exact Kd.N_nil _ _ _ _ _ | exact Kd.V_nil _ _ _ _ _ | exact Kd.Q_nil _ _ _ _ _ | exact Kd.S_nil _ _ _ _ _, by repeat with_reducible first | exact HB.out | apply zad | apply zaa | apply zac | refine zag ?_ GE264.out⟩
   ·replace c13 := Bool.eq_false_iff.mpr c13
    subst c13
    have H1 : (if t261 = 99 then (zat.l0 kj4 l2 ([] : List Int) 0) else (if (l2.length : Int) = 1 then (if 0 < (l2.length : Int) then ((za1.f kj4 t261 ((zap l2 0).f0) ((zap l2 0).f1) ((zap l2 0).f2)).bind fun t272 => (if t272 = true then (some ((([t261] : List Int)), true)) else (if t262 = true then (if (((zap l2 0).f0) == 0 && (((zap l2 0).f1) == 0 && ((((zap l2 0).f2).toList) == ([] : List UInt8)))) = true then (some ((([t261] : List Int)), true)) else (some (([] : List Int), false))) else (some (([] : List Int), false))))) else (none)) else (some (([] : List Int), false)))) = some (r1, r2) := by rw [if_neg (show ¬ (false = true) by decide)] at H; exact H
    clear H
    have H := H1
    clear H1
    by_cases c17 : t261 = 99
    ·rw [if_pos c17] at H
     have c17b0 : (t261 == 99) = true := beq_iff_eq.mpr c17
     have c17b1 : (t261 != 99) = false := bne_eq_false_iff_eq.mpr c17
     clear c17
     have H' := zae.mk H
     clear H
     obtain ⟨d18_0, d18_1, d18_2, d18_3⟩ := cq4 BK264.out
     obtain ⟨e18_0, e18_1, e18_2, e18_3⟩ := fq4 BK264.out
     go_wp2
     go_loopg [9, 10] kj4 (fun kq v9 v10 w' => ∃ (x9_2 : List Int) (x10_2 : Int), v10 = .int .i64 x10_2 ∧ zae (zat.l0 kq l2 x9_2 x10_2 = some (r1, r2)) ∧ zae (kq ≤ kj4) ∧ zae (Kd.R (Kd.int .i64) 3 w' w.heap.size (fun k_ => some k_ ≠ ((.slice Ao8 t258.length co8) : Value).ownBlock) v9 x9_2) ∧ zae (Kd.R (Kd.int .i64) 3 w' w.heap.size (fun k_ => some k_ ≠ (v9 : Value).ownBlock) (.slice Ao8 t258.length co8) t258) ∧ zae (w'.heap[gb264]? = some (.cells #[(.slice Ao8 t258.length co8), .int .i64 t261, .bool t262, .bool t263] 72 (0, 0))) ∧ zae (Below w.heap.size w w'))
     case atStart => exact ⟨(([] : List Int)), (0), (by first | rfl | (simp; done) | (simp [*]; done)), H', ⟨Nat.le_refl _⟩, ⟨by first | exact Kd.R_nil _ _ _ _ _ | exact Kd.N_nil _ _ _ _ _ | exact Kd.V_nil _ _ _ _ _ | exact Kd.Q_nil _ _ _ _ _ | exact Kd.S_nil _ _ _ _ _⟩, ⟨by (with_reducible repeat (first | apply Kd.R_alloc | apply Kd.zbm | apply Kd.zbs)); exact Kd.zcb HO_265000.out (fun _ hk => (by simp [Value.ownBlock]))⟩, ⟨by (with_reducible repeat (first | refine zai ?_ _ | refine zak ?_ | refine zaj ?_ _)); exact BK264.out⟩, ⟨by repeat with_reducible first | exact HB.out | apply zad | apply zaa | apply zac | refine zag ?_ GE264.out⟩⟩
     case round =>
      clear H'
      try clear c1
      try clear c2
      try clear p2 p2
      try clear c3
      try clear c10
      try clear c13
      try clear c14
      try clear c17
      try clear c17b0
      try clear c17b1
      try clear d11_0 d11_1 d11_2 d11_3
      try clear d12_0 d12_1 d12_2 d12_3
      try clear d15_0 d15_1 d15_2 d15_3
      try clear d16_0 d16_1 d16_2 d16_3
      try clear d18_0 d18_1 d18_2 d18_3
      try clear d9_0 d9_1 d9_2 d9_3
      try clear e11_0 e11_1 e11_2 e11_3
      try clear e12_0 e12_1 e12_2 e12_3
      try clear e15_0 e15_1 e15_2 e15_3
      try clear e16_0 e16_1 e16_2 e16_3
      try clear e18_0 e18_1 e18_2 e18_3
      try clear e9_0 e9_1 e9_2 e9_3
      obtain ⟨x9_2, x10_2, rfl, HA, HK2, HO_9, HO_265000, BK264, HB⟩ := hrel
      cases gk with
      | zero => exact absurd HA.out (by simp [zat.l0])
      | succ k2 =>
       have H := HA.out
       clear HA
       simp only [zat.l0] at H
       by_cases c19 : x10_2 < (l2.length : Int)
       ·rw [if_pos c19] at H
        have c19b0 : decide (x10_2 < (l2.length : Int)) = true := decide_eq_true c19
        clear c19
        by_cases c20 : 0 ≤ x10_2
        ·rw [if_pos c20] at H
         have c20b0 : decide (0 ≤ x10_2) = true := decide_eq_true c20
         clear c20
         replace H := Option.bind_eq_some_iff.mp H
         obtain ⟨t266, A210, H⟩ := H
         replace H : (if t266 = true then (if x9_2.length < 17592186044416 then (zat.l0 k2 l2 (x9_2 ++ [wrap64 (4 - (wrap64 ((Int.tmod x10_2 2) * 2)))]) (wrap64 (x10_2 + 1))) else (none)) else (some (([] : List Int), false))) = some (r1, r2) := H
         have A21 := zae.mk A210
         clear A210
         by_cases c22 : t266 = true
         ·subst c22
          have H1 : (if x9_2.length < 17592186044416 then (zat.l0 k2 l2 (x9_2 ++ [wrap64 (4 - (wrap64 ((Int.tmod x10_2 2) * 2)))]) (wrap64 (x10_2 + 1))) else (none)) = some (r1, r2) := by rw [if_pos rfl] at H; exact H
          clear H
          have H := H1
          clear H1
          by_cases c23 : x9_2.length < 17592186044416
          ·rw [if_pos c23] at H
           have LMc23 := zae.mk c23
           clear c23
           obtain ⟨y267, hy267⟩ : ∃ y_ : List Int, y_ = (x9_2 ++ [wrap64 (4 - (wrap64 ((Int.tmod x10_2 2) * 2)))]) := ⟨_, rfl⟩
           replace H : (zat.l0 k2 l2 y267 (wrap64 (x10_2 + 1))) = some (r1, r2) := by first | (rw [hy267]; with_reducible exact H) | (have H2_ := (Option.bind_some _ _).symm.trans H; rw [hy267]; with_reducible exact H2_) | (have H2_ := (Option.bind_some _ _).symm.trans H; with_reducible exact H2_) | with_reducible exact H | (rw [hy267]; exact H) | exact H
           have Ny267 := zae.mk hy267
           clear hy267
           have H' := zae.mk H
           clear H
           have p265 : 0 ≤ (x10_2 : Int) := of_decide_eq_true (by first | (with_reducible assumption) | assumption)
           have q265 : x10_2 < (l2.length : Int) := of_decide_eq_true (by first | (with_reducible assumption) | assumption)
           obtain ⟨ad265, e265, hx265_0, hx265_1, hx265_2⟩ := zcm HR2.out x10_2 p265 q265
           cases e265
           replace hx265_0 := zab HB.out hx265_0
           replace hx265_1 := zab HB.out hx265_1
           replace hx265_2 := zab HB.out hx265_2
           replace p265 := eq_true p265
           replace q265 := eq_true q265
           go_wp2_with (first | ((with_reducible refine za3 (f := 39) rfl ?_); refine zbv (some 49) rfl rfl Tryd.func39 (by kernel_rfl) rfl #[.int .i64 (wrap64 (4 - (wrap64 ((Int.tmod x10_2 2) * 2)))), .agg #[.int .i64 ((zap l2 x10_2).f0), .int .i64 ((zap l2 x10_2).f1), .string ((zap l2 x10_2).f2)]] rfl (by (try simp only [List.map_toArray, List.map_cons, List.map_nil]); first | done | rfl | (simp only [List.length_drop, List.length_take]; rfl)) ?_; (with_reducible refine (za1.calls k2 (wrap64 (4 - (wrap64 ((Int.tmod x10_2 2) * 2)))) ((zap l2 x10_2).f0) ((zap l2 x10_2).f1) ((zap l2 x10_2).f2) true _ A21.out).mono ?_); rintro e w24 ⟨rfl, hb⟩; refine ⟨_, rfl, ?_⟩; have n0_ := zae.mk (Kd.zb8 (by (with_reducible repeat (first | apply Kd.R_alloc | apply Kd.zbm | apply Kd.zbs)); exact HO_9.out) hb); have n1_ := zae.mk (Kd.zb8 (by (with_reducible repeat (first | apply Kd.R_alloc | apply Kd.zbm | apply Kd.zbs)); exact HO_265000.out) hb); have n2_ := zae.mk (zau (g := gb264) (o := .cells #[.slice Ao8 t258.length co8, .int .i64 t261, .bool t262, .bool t263] 72 (0, 0)) (by (with_reducible repeat (first | refine zai ?_ _ | refine zak ?_ | refine zaj ?_ _)); exact BK264.out) hb); have n3_ := zae.mk (zaq (by repeat with_reducible first | exact HB.out | apply zad | apply zaa | apply zac | refine zag ?_ GE264.out) hb); clear HO_9; clear HO_265000; clear BK264; clear HB; have HO_9 := n0_; have HO_265000 := n1_; have BK264 := n2_; have HB := n3_; clear n0_ n1_ n2_ n3_; (try clear hb); (try clear hb2); (try clear hk); (try clear hi)) | ((with_reducible refine zcj (b := .append) (xs := #[.tmp 51, .tmp 53]) rfl ?_); (try (refine zcg (by rfl) ?_; dsimp only)); at_builtin; refine Kd.R_append (Kd.int .i64) (w0 := w) w.heap.size rfl (.tmp 51) (.tmp 53) 55 3 (.int .i64 0) 8 rfl Tryd.underlying55 info3 rfl (by decide) (by omega) u9 x9_2 (wrap64 (4 - (wrap64 ((Int.tmod x10_2 2) * 2)))) [.int .i64 (wrap64 (4 - (wrap64 ((Int.tmod x10_2 2) * 2))))] (fun k_ => some k_ ≠ (.slice Ao8 t258.length co8 : Value).ownBlock) (fun _ => False) rfl rfl ?aP (fun _ hk => hk.elim) ?aF ?aO ?aB ?aS ?aL ?_; (case aP => exact rfl); (case aB => exact (by repeat with_reducible first | exact HB.out | apply zad | apply zaa | apply zac | refine zag ?_ GE264.out)); (case aF => exact (fun k_ hk => Kd.fresh' (Kd.R_lt (by (with_reducible repeat (first | apply Kd.R_alloc | apply Kd.zbm | apply Kd.zbs)); exact HO_265000.out)) k_ hk)); (case aO => exact (by (with_reducible repeat (first | apply Kd.R_alloc | apply Kd.zbm | apply Kd.zbs)); exact HO_9.out)); (case aS => exact (zav (by repeat with_reducible first | exact HB.out | apply zad | apply zaa | apply zac | refine zag ?_ GE264.out))); (case aL => have := LMc23.out; omega); intro v268 w25 ho hb hg hat; rw [← Ny267.out] at ho; have n0_ := zae.mk (Kd.R_after (ok := (fun _ => True)) (by (with_reducible repeat (first | apply Kd.R_alloc | apply Kd.zbm | apply Kd.zbs)); exact Kd.zcb HO_265000.out (fun _ hk => ⟨trivial, hk⟩)) hg hat); have n1_ := zae.mk (blk_grown (g := gb264) (o := .cells #[.slice Ao8 t258.length co8, .int .i64 t261, .bool t262, .bool t263] 72 (0, 0)) (by (with_reducible repeat (first | refine zai ?_ _ | refine zak ?_ | refine zaj ?_ _)); exact BK264.out) hg (Kd.R_ne HO_9.out BK264.out (by decide))); have n2_ := zae.mk (hb); have n3_ := zae.mk (ho); clear HO_265000; clear BK264; clear HB; clear HO_9; have HO_265000 := n0_; have BK264 := n1_; have HB := n2_; have HO269 := n3_; clear n0_ n1_ n2_ n3_; clear ho hb hg hat))
           go_roundg k2
           case measure => have := HJ4.out; have := HK2.out; omega
           case rel => exact ⟨(y267), (wrap64 (x10_2 + 1)), (by first | rfl | (simp; done) | (simp [*]; done)), H', ⟨by have := HJ4.out; have := HK2.out; omega⟩, ⟨by (with_reducible repeat (first | apply Kd.R_alloc | apply Kd.zbm | apply Kd.zbs)); exact HO269.out⟩, ⟨by (with_reducible repeat (first | apply Kd.R_alloc | apply Kd.zbm | apply Kd.zbs)); exact Kd.zcb HO_265000.out (fun _ hk => hk.2)⟩, ⟨by (with_reducible repeat (first | refine zai ?_ _ | refine zak ?_ | refine zaj ?_ _)); exact BK264.out⟩, ⟨by repeat with_reducible first | exact HB.out | apply zad | apply zaa | apply zac | refine zag ?_ GE264.out⟩⟩
          ·rw [if_neg c23] at H
           exact absurd H (by simp)
         ·replace c22 := Bool.eq_false_iff.mpr c22
          subst c22
          have H1 : (some (([] : List Int), false)) = some (r1, r2) := by rw [if_neg (show ¬ (false = true) by decide)] at H; exact H
          clear H
          have H := H1
          clear H1
          simp only [Option.some.injEq, Prod.mk.injEq] at H
          obtain ⟨rfl, rfl⟩ := H
          have p265 : 0 ≤ (x10_2 : Int) := of_decide_eq_true (by first | (with_reducible assumption) | assumption)
          have q265 : x10_2 < (l2.length : Int) := of_decide_eq_true (by first | (with_reducible assumption) | assumption)
          obtain ⟨ad265, e265, hx265_0, hx265_1, hx265_2⟩ := zcm HR2.out x10_2 p265 q265
          cases e265
          replace hx265_0 := zab HB.out hx265_0
          replace hx265_1 := zab HB.out hx265_1
          replace hx265_2 := zab HB.out hx265_2
          replace p265 := eq_true p265
          replace q265 := eq_true q265
          go_wp2_with (first | ((with_reducible refine za3 (f := 39) rfl ?_); refine zbv (some 49) rfl rfl Tryd.func39 (by kernel_rfl) rfl #[.int .i64 (wrap64 (4 - (wrap64 ((Int.tmod x10_2 2) * 2)))), .agg #[.int .i64 ((zap l2 x10_2).f0), .int .i64 ((zap l2 x10_2).f1), .string ((zap l2 x10_2).f2)]] rfl (by (try simp only [List.map_toArray, List.map_cons, List.map_nil]); first | done | rfl | (simp only [List.length_drop, List.length_take]; rfl)) ?_; (with_reducible refine (za1.calls k2 (wrap64 (4 - (wrap64 ((Int.tmod x10_2 2) * 2)))) ((zap l2 x10_2).f0) ((zap l2 x10_2).f1) ((zap l2 x10_2).f2) false _ A21.out).mono ?_); rintro e w26 ⟨rfl, hb⟩; refine ⟨_, rfl, ?_⟩; have n0_ := zae.mk (Kd.zb8 (by (with_reducible repeat (first | apply Kd.R_alloc | apply Kd.zbm | apply Kd.zbs)); exact HO_9.out) hb); have n1_ := zae.mk (Kd.zb8 (by (with_reducible repeat (first | apply Kd.R_alloc | apply Kd.zbm | apply Kd.zbs)); exact HO_265000.out) hb); have n2_ := zae.mk (zau (g := gb264) (o := .cells #[.slice Ao8 t258.length co8, .int .i64 t261, .bool t262, .bool t263] 72 (0, 0)) (by (with_reducible repeat (first | refine zai ?_ _ | refine zak ?_ | refine zaj ?_ _)); exact BK264.out) hb); have n3_ := zae.mk (zaq (by repeat with_reducible first | exact HB.out | apply zad | apply zaa | apply zac | refine zag ?_ GE264.out) hb); clear HO_9; clear HO_265000; clear BK264; clear HB; have HO_9 := n0_; have HO_265000 := n1_; have BK264 := n2_; have HB := n3_; clear n0_ n1_ n2_ n3_; (try clear hb); (try clear hb2); (try clear hk); (try clear hi)))
          go_ret2
          exact ⟨_, by first | rfl | (simp [zam, zal] <;> rfl) | (simp [*, zam, zal] <;> rfl), by first | exact Kd.R_nil _ _ _ _ _ | exact Kd.N_nil _ _ _ _ _ | exact Kd.V_nil _ _ _ _ _ | exact Kd.Q_nil _ _ _ _ _ | exact Kd.S_nil _ _ _ _ _, by repeat with_reducible first | exact HB.out | apply zad | apply zaa | apply zac | refine zag ?_ GE264.out⟩
        ·rw [if_neg c20] at H
         exact absurd H (by simp)
       ·rw [if_neg c19] at H
        have c19b0 : decide (x10_2 < (l2.length : Int)) = false := decide_eq_false c19
        clear c19
        by_cases c27 : ((x9_2.length : Int) % 2) = 1
        ·rw [if_pos c27] at H
         have c27b0 : (((x9_2.length : Int) % 2) == 1) = true := beq_iff_eq.mpr c27
         have c27b1 : (((x9_2.length : Int) % 2) != 1) = false := bne_eq_false_iff_eq.mpr c27
         clear c27
         simp only [Option.some.injEq, Prod.mk.injEq] at H
         obtain ⟨rfl, rfl⟩ := H
         obtain ⟨Ao28, co28, eo28⟩ := Kd.zch HO_9.out
         subst eo28
         go_wp2
         go_ret2
         exact ⟨_, by first | rfl | (simp [zam, zal] <;> rfl) | (simp [*, zam, zal] <;> rfl), by first | exact Kd.R_nil _ _ _ _ _ | exact Kd.N_nil _ _ _ _ _ | exact Kd.V_nil _ _ _ _ _ | exact Kd.Q_nil _ _ _ _ _ | exact Kd.S_nil _ _ _ _ _, by repeat with_reducible first | exact HB.out | apply zad | apply zaa | apply zac | refine zag ?_ GE264.out⟩
        ·rw [if_neg c27] at H
         have c27b0 : (((x9_2.length : Int) % 2) == 1) = false := beq_eq_false_iff_ne.mpr c27
         have c27b1 : (((x9_2.length : Int) % 2) != 1) = true := bne_iff_ne.mpr c27
         simp only [Option.some.injEq, Prod.mk.injEq] at H
         obtain ⟨rfl, rfl⟩ := H
         obtain ⟨Ao29, co29, eo29⟩ := Kd.zch HO_9.out
         subst eo29
         go_wp2
         go_ret2
         exact ⟨_, by first | rfl | (simp [zam, zal] <;> rfl) | (simp [*, zam, zal] <;> rfl), by (with_reducible repeat (first | apply Kd.R_alloc | apply Kd.zbm | apply Kd.zbs)); exact Kd.zcb HO_9.out (fun _ hk => trivial), by repeat with_reducible first | exact HB.out | apply zad | apply zaa | apply zac | refine zag ?_ GE264.out⟩
    ·rw [if_neg c17] at H
     have c17b0 : (t261 == 99) = false := beq_eq_false_iff_ne.mpr c17
     have c17b1 : (t261 != 99) = true := bne_iff_ne.mpr c17
     by_cases c30 : (l2.length : Int) = 1
     ·rw [if_pos c30] at H
      have c30b0 : ((l2.length : Int) == 1) = true := beq_iff_eq.mpr c30
      have c30b1 : ((l2.length : Int) != 1) = false := bne_eq_false_iff_eq.mpr c30
      clear c30
      by_cases c31 : 0 < (l2.length : Int)
      ·rw [if_pos c31] at H
       have c31b0 : decide (0 < (l2.length : Int)) = true := decide_eq_true c31
       have c31b1 : decide (0 < l2.length) = true := decide_eq_true (by omega)
       clear c31
       replace H := Option.bind_eq_some_iff.mp H
       obtain ⟨t272, A320, H⟩ := H
       replace H : (if t272 = true then (some ((([t261] : List Int)), true)) else (if t262 = true then (if (((zap l2 0).f0) == 0 && (((zap l2 0).f1) == 0 && ((((zap l2 0).f2).toList) == ([] : List UInt8)))) = true then (some ((([t261] : List Int)), true)) else (some (([] : List Int), false))) else (some (([] : List Int), false)))) = some (r1, r2) := H
       have A32 := zae.mk A320
       clear A320
       by_cases c33 : t272 = true
       ·subst c33
        have H1 : (some ((([t261] : List Int)), true)) = some (r1, r2) := by rw [if_pos rfl] at H; exact H
        clear H
        have H := H1
        clear H1
        obtain ⟨y273, hy273⟩ : ∃ y_ : List Int, y_ = (([t261] : List Int)) := ⟨_, rfl⟩
        replace H : (some (y273, true)) = some (r1, r2) := by first | (rw [hy273]; with_reducible exact H) | (have H2_ := (Option.bind_some _ _).symm.trans H; rw [hy273]; with_reducible exact H2_) | (have H2_ := (Option.bind_some _ _).symm.trans H; with_reducible exact H2_) | with_reducible exact H | (rw [hy273]; exact H) | exact H
        have Ny273 := zae.mk hy273
        clear hy273
        simp only [Option.some.injEq, Prod.mk.injEq] at H
        obtain ⟨rfl, rfl⟩ := H
        obtain ⟨d34_0, d34_1, d34_2, d34_3⟩ := cq4 BK264.out
        obtain ⟨e34_0, e34_1, e34_2, e34_3⟩ := fq4 BK264.out
        try go_wp2_with (first | ((with_reducible refine za8 (N := 12) rfl ?_); (try (refine zcg (by rfl) ?_; dsimp only)); refine za7 ?hg (N := 12) ?hd (cs := #[.int .i64 0, .int .i64 0, .string (⟨#[]⟩ : ByteArray)]) (t := 38) ?hr ?_; (case hd => rfl); (case hg => rfl); (case hr => first | (go_simp; done) | (go_simp; rfl)); intro gb270 hg w35 hbox hb; have n0_ := zae.mk (Kd.zb8 (by (with_reducible repeat (first | apply Kd.R_alloc | apply Kd.zbm | apply Kd.zbs)); exact HO_265000.out) hb); have n1_ := zae.mk (zau (g := gb264) (o := .cells #[.slice Ao8 t258.length co8, .int .i64 t261, .bool t262, .bool t263] 72 (0, 0)) (by (with_reducible repeat (first | refine zai ?_ _ | refine zak ?_ | refine zaj ?_ _)); exact BK264.out) hb); have n2_ := zae.mk (zaq (by repeat with_reducible first | exact HB.out | apply zad | apply zaa | apply zac | refine zag ?_ GE264.out) hb); have n3_ := zae.mk (hbox); have n4_ := zae.mk ((by rw [hg]; exact (zav (by repeat with_reducible first | exact HB.out | apply zad | apply zaa | apply zac | refine zag ?_ GE264.out)) : w.heap.size ≤ gb270)); have n5_ := zae.mk ((by rw [hg]; exact (zav (by repeat with_reducible first | exact HB.out | apply zad | apply zaa | apply zac | refine zag ?_ GE264.out)) : w.heap.size ≤ gb270)); have n6_ := zae.mk ((by rw [hg]; exact Nat.ne_of_lt (zca (g := gb264) (o := .cells #[.slice Ao8 t258.length co8, .int .i64 t261, .bool t262, .bool t263] 72 (0, 0)) (by (with_reducible repeat (first | refine zai ?_ _ | refine zak ?_ | refine zaj ?_ _)); exact BK264.out)) : gb264 ≠ gb270)); have n7_ := zae.mk ((by rw [hg]; exact Nat.ne_of_gt (zca (g := gb264) (o := .cells #[.slice Ao8 t258.length co8, .int .i64 t261, .bool t262, .bool t263] 72 (0, 0)) (by (with_reducible repeat (first | refine zai ?_ _ | refine zak ?_ | refine zaj ?_ _)); exact BK264.out)) : gb270 ≠ gb264)); clear HO_265000; clear BK264; clear HB; have HO_265000 := n0_; have BK264 := n1_; have HB := n2_; have BK270 := n3_; have GW270 := n4_; have GE270 := n5_; have NB264_270 := n6_; have NB270_264 := n7_; clear n0_ n1_ n2_ n3_ n4_ n5_ n6_ n7_; clear hb hbox hg; have hnb36 := NB270_264.out; have hnc36 := NB264_270.out; obtain ⟨d37_0, d37_1, d37_2⟩ := cq3 BK270.out; obtain ⟨e37_0, e37_1, e37_2⟩ := fq3 BK270.out))
        have n0_ : zae (Kd.R (Kd.int .i64) 3 (((w35.setCell ⟨gb270, 0, none⟩ (.int .i64 0)).setCell ⟨gb270, 1, none⟩ (.int .i64 0)).setCell ⟨gb270, 2, none⟩ (.string (⟨#[]⟩ : ByteArray))) w.heap.size (fun _ => True) (.slice Ao8 t258.length co8) t258) := ⟨by (with_reducible repeat (first | apply Kd.R_alloc | apply Kd.zbm | apply Kd.zbs)); exact Kd.zcb (Kd.R_far (p := ⟨gb270, 2, none⟩) (Kd.R_far (p := ⟨gb270, 1, none⟩) (Kd.R_far (p := ⟨gb270, 0, none⟩) (Kd.zck HO_265000.out BK270.out (by decide)) (fun _ hk => hk.2) (.int .i64 0)) (fun _ hk => hk.2) (.int .i64 0)) (fun _ hk => hk.2) (.string (⟨#[]⟩ : ByteArray))) (fun _ hk => trivial)⟩
        have n1_ : zae ((((w35.setCell ⟨gb270, 0, none⟩ (.int .i64 0)).setCell ⟨gb270, 1, none⟩ (.int .i64 0)).setCell ⟨gb270, 2, none⟩ (.string (⟨#[]⟩ : ByteArray))).heap[gb264]? = some (.cells #[.slice Ao8 t258.length co8, .int .i64 t261, .bool t262, .bool t263] 72 (0, 0))) := ⟨by (with_reducible repeat (first | refine zai ?_ _ | refine zak ?_ | refine zaj ?_ _)); refine zb7 ?_ NB264_270.out _; (with_reducible repeat (first | refine zai ?_ _ | refine zak ?_ | refine zaj ?_ _)); refine zb7 ?_ NB264_270.out _; (with_reducible repeat (first | refine zai ?_ _ | refine zak ?_ | refine zaj ?_ _)); refine zb7 ?_ NB264_270.out _; (with_reducible repeat (first | refine zai ?_ _ | refine zak ?_ | refine zaj ?_ _)); exact BK264.out⟩
        have n2_ : zae ((((w35.setCell ⟨gb270, 0, none⟩ (.int .i64 0)).setCell ⟨gb270, 1, none⟩ (.int .i64 0)).setCell ⟨gb270, 2, none⟩ (.string (⟨#[]⟩ : ByteArray))).heap[gb270]? = some (.cells #[.int .i64 0, .int .i64 0, .string (⟨#[]⟩ : ByteArray)] 38 (0, 0))) := ⟨by (with_reducible repeat (first | refine zai ?_ _ | refine zak ?_ | refine zaj ?_ _)); refine pq3 (.int .i64 0) (.int .i64 0) (.string (⟨#[]⟩ : ByteArray)) ?_; (with_reducible repeat (first | refine zai ?_ _ | refine zak ?_ | refine zaj ?_ _)); exact BK270.out⟩
        have n3_ : zae (Below w.heap.size w (((w35.setCell ⟨gb270, 0, none⟩ (.int .i64 0)).setCell ⟨gb270, 1, none⟩ (.int .i64 0)).setCell ⟨gb270, 2, none⟩ (.string (⟨#[]⟩ : ByteArray)))) := ⟨by repeat with_reducible first | exact HB.out | apply zad | apply zaa | apply zac | refine zag ?_ GE264.out | refine zag ?_ GE270.out⟩
        try clear HO_265000
        try clear BK264
        try clear BK270
        try clear HB
        generalize (((w35.setCell ⟨gb270, 0, none⟩ (.int .i64 0)).setCell ⟨gb270, 1, none⟩ (.int .i64 0)).setCell ⟨gb270, 2, none⟩ (.string (⟨#[]⟩ : ByteArray))) = w38 at n0_ n1_ n2_ n3_ ⊢
        have HO_265000 := n0_
        have BK264 := n1_
        have BK270 := n2_
        have HB := n3_
        clear n0_ n1_ n2_ n3_
        have n0_ := zae.mk (Kd.zbs HO_265000.out)
        have n1_ := zae.mk (zak BK264.out)
        have n2_ := zae.mk (zak BK270.out)
        have n3_ := zae.mk (zac HB.out)
        clear HO_265000
        clear BK264
        clear BK270
        clear HB
        have HO_265000 := n0_
        have BK264 := n1_
        have BK270 := n2_
        have HB := n3_
        clear n0_ n1_ n2_ n3_
        have p271 : 0 ≤ (0 : Int) := (by omega)
        have q271 : 0 < (l2.length : Int) := of_decide_eq_true (by first | (with_reducible assumption) | assumption)
        obtain ⟨ad271, e271, hx271_0, hx271_1, hx271_2⟩ := zcm HR2.out 0 p271 q271
        have hw271_2 := hx271_2
        (try rw [show ((0 : Int)).toNat = 0 from rfl] at hw271_2)
        (try rw [show 0 * 3 = 0 from rfl] at hw271_2)
        (try rw [Addr.add_zero'] at hw271_2)
        have hw271_1 := hx271_1
        (try rw [show ((0 : Int)).toNat = 0 from rfl] at hw271_1)
        (try rw [show 0 * 3 = 0 from rfl] at hw271_1)
        (try rw [Addr.add_zero'] at hw271_1)
        have hw271_0 := hx271_0
        (try rw [show ((0 : Int)).toNat = 0 from rfl] at hw271_0)
        (try rw [show 0 * 3 = 0 from rfl] at hw271_0)
        (try rw [Addr.add_zero'] at hw271_0)
        cases e271
        have qi271 : (0 < l2.length) = True := eq_true (by omega)
        (try rw [show ((0 : Int)).toNat = 0 from rfl] at hx271_0)
        (try rw [show 0 * 3 = 0 from rfl] at hx271_0)
        (try rw [Addr.add_zero'] at hx271_0)
        (try rw [show ((0 : Int)).toNat = 0 from rfl] at hx271_1)
        (try rw [show 0 * 3 = 0 from rfl] at hx271_1)
        (try rw [Addr.add_zero'] at hx271_1)
        (try rw [show ((0 : Int)).toNat = 0 from rfl] at hx271_2)
        (try rw [show 0 * 3 = 0 from rfl] at hx271_2)
        (try rw [Addr.add_zero'] at hx271_2)
        replace hx271_0 := zab HB.out hx271_0
        replace hx271_1 := zab HB.out hx271_1
        replace hx271_2 := zab HB.out hx271_2
        replace p271 := eq_true p271
        replace q271 := eq_true q271
        refine zcp (n := 17) (S := fun w' => w'.cell? ⟨gb264, 0, none⟩ = some (.slice Ao8 t258.length co8) ∧ w'.cell? ⟨gb264, 1, none⟩ = some (.int .i64 t261) ∧ w'.cell? ⟨gb264, 2, none⟩ = some (.bool t262) ∧ w'.cell? ⟨gb264, 3, none⟩ = some (.bool t263) ∧ w'.cell? ad271 = some (.int .i64 ((zap l2 0).f0)) ∧ w'.cell? ⟨ad271.block, ad271.off + 1, none⟩ = some (.int .i64 ((zap l2 0).f1)) ∧ w'.cell? ⟨ad271.block, ad271.off + 2, none⟩ = some (.string ((zap l2 0).f2))) (ds := []) #[false, false, false, false, false, false, false, false, false, false, false, false, false, false, false, false, false] (by kernel_rfl) rfl rfl ⟨(zaf BK264.out 0).trans rfl, (zaf BK264.out 1).trans rfl, (zaf BK264.out 2).trans rfl, (zaf BK264.out 3).trans rfl, (zab HB.out hw271_0), (zab HB.out hw271_1), (zab HB.out hw271_2)⟩ (fun hHeld => ?_); refine zci zat.tab19 zat.bits19 (fun HT_ HW_ => ?_)
        generalize w38.drew = w39 at HO_265000 BK264 BK270 HB hx271_0 hx271_1 hx271_2 hHeld ⊢
        refine pz_ 0 64 ?_ ?_ (bz 17 1) rfl rfl (zay HT_.out (by kernel_rfl)) (fun _ _ _ h => h) (Or.inl ⟨by rfl, ?_⟩) ?_ ?_; rotate_left 2; (intro w'; go_simp; with_reducible rfl); (simp only [zps]; rfl)
        refine pz_ 2 66 ?_ ?_ (bz 17 5) rfl rfl (zay HT_.out (by kernel_rfl)) (fun _ _ _ h => h) (Or.inl ⟨by rfl, ?_⟩) ?_ ?_; rotate_left 2; (intro w'; go_simp; with_reducible rfl); (simp only [zps]; rfl)
        refine pz_ 3 67 ?_ ?_ (bz 17 13) rfl rfl (zay HT_.out (by kernel_rfl)) (fun _ _ _ h => h) (Or.inl ⟨by rfl, ?_⟩) ?_ ?_; rotate_left 2; (intro w'; go_simp; with_reducible rfl); (simp only [zps]; rfl)
        refine tz_ 1 65 ?_ ?_ (bz 17 15) rfl rfl (zbt HT_.out HW_.out (by kernel_rfl)) (fun _ _ _ h => h) (Or.inl ⟨by rfl, ?_⟩) hHeld ?_ ?_; rotate_left 2; (rintro w' ⟨s0, s1, s2, s3, s4, s5, s6⟩; go_simp; with_reducible rfl); (simp only [zps]; rfl)
        refine tz_ 4 68 ?_ ?_ (bz 17 31) rfl rfl (zbt HT_.out HW_.out (by kernel_rfl)) (fun _ _ _ h => h) (Or.inl ⟨by rfl, ?_⟩) hHeld ?_ ?_; rotate_left 2; (rintro w' ⟨s0, s1, s2, s3, s4, s5, s6⟩; go_simp; with_reducible rfl); (simp only [zps]; rfl)
        refine one_ (i := 5) (N := some 69) (bz 17 63) rfl rfl (one_of HT_.out (by kernel_rfl)) (by decide) (fun K hK => ?_)
        refine goes_ Tryd.func39 (by kernel_rfl) rfl #[.int .i64 t261, .agg #[.int .i64 ((zap l2 0).f0), .int .i64 ((zap l2 0).f1), .string ((zap l2 0).f2)]] (by rfl) rfl rfl (by (try simp only [List.map_toArray, List.map_cons, List.map_nil]); first | done | rfl | (simp only [List.length_drop, List.length_take]; rfl)) ?_
        with_reducible refine (za1.calls kj4 t261 ((zap l2 0).f0) ((zap l2 0).f1) ((zap l2 0).f2) true _ A32.out).mono ?_
        rintro e w40 ⟨rfl, hb⟩
        refine ⟨_, rfl, ?_⟩
        have n0_ := zae.mk (Kd.zb8 (by (with_reducible repeat (first | apply Kd.R_alloc | apply Kd.zbm | apply Kd.zbs)); exact HO_265000.out) hb)
        have n1_ := zae.mk (zau (g := gb264) (o := .cells #[.slice Ao8 t258.length co8, .int .i64 t261, .bool t262, .bool t263] 72 (0, 0)) (by (with_reducible repeat (first | refine zai ?_ _ | refine zak ?_ | refine zaj ?_ _)); exact BK264.out) hb)
        have n2_ := zae.mk (zau (g := gb270) (o := .cells #[.int .i64 0, .int .i64 0, .string (⟨#[]⟩ : ByteArray)] 38 (0, 0)) (by (with_reducible repeat (first | refine zai ?_ _ | refine zak ?_ | refine zaj ?_ _)); exact BK270.out) hb)
        have n3_ := zae.mk (zaq (by repeat with_reducible first | exact HB.out | apply zad | apply zaa | apply zac | refine zag ?_ GE264.out | refine zag ?_ GE270.out) hb)
        clear HO_265000
        clear BK264
        clear BK270
        clear HB
        have HO_265000 := n0_
        have BK264 := n1_
        have BK270 := n2_
        have HB := n3_
        clear n0_ n1_ n2_ n3_
        try clear hb
        try clear hb2
        try clear hk
        try clear hi
        refine hK.out _ _ ⟨(zaf BK264.out 0).trans rfl, (zaf BK264.out 1).trans rfl, (zaf BK264.out 2).trans rfl, (zaf BK264.out 3).trans rfl, (zab HB.out hw271_0), (zab HB.out hw271_1), (zab HB.out hw271_2)⟩ (fun hHeld => ?_)
        clear hK K
        refine norm_ (a' := ?_) ?_ ?_
        rotate_left
        ·show Act.put _ (some 69) _ = _
         simp only [zps]
         rfl
        refine pz_ 6 70 ?_ ?_ (bz 17 127) rfl rfl (zay HT_.out (by kernel_rfl)) (fun _ _ _ h => h) (Or.inl ⟨by rfl, ?_⟩) ?_ ?_; rotate_left 2; (intro w'; go_simp; with_reducible rfl); (simp only [zps]; rfl)
        refine pz_ 7 71 undef ?_ (bz 17 255) rfl rfl (zay HT_.out (by kernel_rfl)) (fun _ _ _ h => h) (Or.inr ⟨by rfl, rfl⟩) ?_ ?_; rotate_left; (simp only [zps]; rfl)
        refine pz_ 8 72 undef ?_ (bz 17 511) rfl rfl (zay HT_.out (by kernel_rfl)) (fun _ _ _ h => h) (Or.inr ⟨by rfl, rfl⟩) ?_ ?_; rotate_left; (simp only [zps]; rfl)
        refine pz_ 9 73 undef ?_ (bz 17 1023) rfl rfl (zay HT_.out (by kernel_rfl)) (fun _ _ _ h => h) (Or.inr ⟨by rfl, rfl⟩) ?_ ?_; rotate_left; (simp only [zps]; rfl)
        refine pz_ 10 74 undef ?_ (bz 17 2047) rfl rfl (zay HT_.out (by kernel_rfl)) (fun _ _ _ h => h) (Or.inr ⟨by rfl, rfl⟩) ?_ ?_; rotate_left; (simp only [zps]; rfl)
        refine pz_ 11 75 undef ?_ (bz 17 4095) rfl rfl (zay HT_.out (by kernel_rfl)) (fun _ _ _ h => h) (Or.inr ⟨by rfl, rfl⟩) ?_ ?_; rotate_left; (simp only [zps]; rfl)
        refine pz_ 12 76 undef ?_ (bz 17 8191) rfl rfl (zay HT_.out (by kernel_rfl)) (fun _ _ _ h => h) (Or.inr ⟨by rfl, rfl⟩) ?_ ?_; rotate_left; (simp only [zps]; rfl)
        refine pz_ 13 77 undef ?_ (bz 17 16383) rfl rfl (zay HT_.out (by kernel_rfl)) (fun _ _ _ h => h) (Or.inr ⟨by rfl, rfl⟩) ?_ ?_; rotate_left; (simp only [zps]; rfl)
        refine pz_ 14 78 undef ?_ (bz 17 32767) rfl rfl (zay HT_.out (by kernel_rfl)) (fun _ _ _ h => h) (Or.inr ⟨by rfl, rfl⟩) ?_ ?_; rotate_left; (simp only [zps]; rfl)
        refine pz_ 15 79 undef ?_ (bz 17 65535) rfl rfl (zay HT_.out (by kernel_rfl)) (fun _ _ _ h => h) (Or.inr ⟨by rfl, rfl⟩) ?_ ?_; rotate_left; (simp only [zps]; rfl)
        refine pz_ 16 80 ?_ ?_ (bz 17 131071) rfl rfl (zay HT_.out (by kernel_rfl)) (fun _ _ _ h => h) (Or.inl ⟨by rfl, ?_⟩) ?_ ?_; rotate_left 2; (intro w'; go_simp; with_reducible rfl); (simp only [zps]; rfl)
        refine done_ (zcv HT_.out (by kernel_rfl)) ?_
        obtain ⟨d41_0, d41_1, d41_2, d41_3⟩ := cq4 BK264.out
        obtain ⟨e41_0, e41_1, e41_2, e41_3⟩ := fq4 BK264.out
        try go_wp2_with (first | ((with_reducible refine za8 (N := 83) rfl ?_); (try (refine zcg (by rfl) ?_; dsimp only)); refine Kd.R_lit (Kd.int .i64) _ 3 ?hg (N := 83) ?hd (xs := ([t261] : List Int)) (inner := [.int .i64 t261]) (ok := fun _ => True) (okp := fun _ => True) ?hr ?hp (fun _ hk => hk) trivial (Below.refl _ _) (Nat.le_refl _) (by simp) ?_; (case hd => rfl); (case hg => rfl); (case hr => first | (go_simp; done) | (go_simp; rfl)); (case hp => exact (Reps.one (show Kd.M (Kd.int .i64) _ _ _ t261 [.int .i64 t261] from rfl) (Reps.none _ _))); intro v274 w42 ho43 hb hg_ hnew_; clear hg_ hnew_; (first | rw [← Ny273.out] at ho43 | (simp only [Int.reduceToNat] at ho43; rw [← Ny273.out] at ho43)); have n0_ := zae.mk (Kd.R_elder' (by (with_reducible repeat (first | apply Kd.R_alloc | apply Kd.zbm | apply Kd.zbs)); exact HO_265000.out) (Kd.R_base ho43) hb); have n1_ := zae.mk (Kd.zcd (Kd.R_new' ho43 (Kd.R_lt (by (with_reducible repeat (first | apply Kd.R_alloc | apply Kd.zbm | apply Kd.zbs)); exact HO_265000.out))) (zav (by repeat with_reducible first | exact HB.out | apply zad | apply zaa | apply zac | refine zag ?_ GE264.out | refine zag ?_ GE270.out))); have n2_ := zae.mk (zau (g := gb264) (o := .cells #[.slice Ao8 t258.length co8, .int .i64 t261, .bool t262, .bool t263] 72 (0, 0)) (by (with_reducible repeat (first | refine zai ?_ _ | refine zak ?_ | refine zaj ?_ _)); exact BK264.out) hb); have n3_ := zae.mk (zau (g := gb270) (o := .cells #[.int .i64 0, .int .i64 0, .string (⟨#[]⟩ : ByteArray)] 38 (0, 0)) (by (with_reducible repeat (first | refine zai ?_ _ | refine zak ?_ | refine zaj ?_ _)); exact BK270.out) hb); have n4_ := zae.mk (zaq (by repeat with_reducible first | exact HB.out | apply zad | apply zaa | apply zac | refine zag ?_ GE264.out | refine zag ?_ GE270.out) hb); clear HO_265000; clear BK264; clear BK270; clear HB; have HO_265000 := n0_; have HO275 := n1_; have BK264 := n2_; have BK270 := n3_; have HB := n4_; clear n0_ n1_ n2_ n3_ n4_; clear hb ho43))
        go_ret2
        exact ⟨_, by first | rfl | (simp [zam, zal] <;> rfl) | (simp [*, zam, zal] <;> rfl), by (with_reducible repeat (first | apply Kd.R_alloc | apply Kd.zbm | apply Kd.zbs)); exact Kd.zcb HO275.out (fun _ hk => trivial), by repeat with_reducible first | exact HB.out | apply zad | apply zaa | apply zac | refine zag ?_ GE264.out | refine zag ?_ GE270.out⟩
       ·replace c33 := Bool.eq_false_iff.mpr c33
        subst c33
        have H1 : (if t262 = true then (if (((zap l2 0).f0) == 0 && (((zap l2 0).f1) == 0 && ((((zap l2 0).f2).toList) == ([] : List UInt8)))) = true then (some ((([t261] : List Int)), true)) else (some (([] : List Int), false))) else (some (([] : List Int), false))) = some (r1, r2) := by rw [if_neg (show ¬ (false = true) by decide)] at H; exact H
        clear H
        have H := H1
        clear H1
        by_cases c44 : t262 = true
        ·subst c44
         have H1 : (if (((zap l2 0).f0) == 0 && (((zap l2 0).f1) == 0 && ((((zap l2 0).f2).toList) == ([] : List UInt8)))) = true then (some ((([t261] : List Int)), true)) else (some (([] : List Int), false))) = some (r1, r2) := by rw [if_pos rfl] at H; exact H
         clear H
         have H := H1
         clear H1
         by_cases c45 : (((zap l2 0).f0) == 0 && (((zap l2 0).f1) == 0 && ((((zap l2 0).f2).toList) == ([] : List UInt8)))) = true
         ·rw [if_pos c45] at H
          have c45b0 : (((zap l2 0).f0) == 0 && (((zap l2 0).f1) == 0 && ((((zap l2 0).f2).toList) == ([] : List UInt8)))) = true := c45
          (try (have c45b5 : (((zap l2 0).f0) == 0 && (((zap l2 0).f1) == 0 && ((((zap l2 0).f2).toList).isEmpty))) = true := by simp only [show ∀ l : List UInt8, l.isEmpty = (l == []) from fun l => by cases l <;> rfl]; exact c45b0))
          (try (have c45b1 : decide (((zap l2 0).f0) = 0 && (((zap l2 0).f1) == 0 && ((((zap l2 0).f2).toList) == ([] : List UInt8)))) = true := by simpa using c45))
          (try (have c45b2 : (((zap l2 0).f0) == 0 && (((zap l2 0).f1) == 0 && ((((zap l2 0).f2).toList) == ([] : List UInt8)))) = true := by simpa using c45))
          clear c45
          obtain ⟨y277, hy277⟩ : ∃ y_ : List Int, y_ = (([t261] : List Int)) := ⟨_, rfl⟩
          replace H : (some (y277, true)) = some (r1, r2) := by first | (rw [hy277]; with_reducible exact H) | (have H2_ := (Option.bind_some _ _).symm.trans H; rw [hy277]; with_reducible exact H2_) | (have H2_ := (Option.bind_some _ _).symm.trans H; with_reducible exact H2_) | with_reducible exact H | (rw [hy277]; exact H) | exact H
          have Ny277 := zae.mk hy277
          clear hy277
          simp only [Option.some.injEq, Prod.mk.injEq] at H
          obtain ⟨rfl, rfl⟩ := H
          obtain ⟨d46_0, d46_1, d46_2, d46_3⟩ := cq4 BK264.out
          obtain ⟨e46_0, e46_1, e46_2, e46_3⟩ := fq4 BK264.out
          try go_wp2_with (first | ((with_reducible refine za8 (N := 12) rfl ?_); (try (refine zcg (by rfl) ?_; dsimp only)); refine za7 ?hg (N := 12) ?hd (cs := #[.int .i64 0, .int .i64 0, .string (⟨#[]⟩ : ByteArray)]) (t := 38) ?hr ?_; (case hd => rfl); (case hg => rfl); (case hr => first | (go_simp; done) | (go_simp; rfl)); intro gb270 hg w47 hbox hb; have n0_ := zae.mk (Kd.zb8 (by (with_reducible repeat (first | apply Kd.R_alloc | apply Kd.zbm | apply Kd.zbs)); exact HO_265000.out) hb); have n1_ := zae.mk (zau (g := gb264) (o := .cells #[.slice Ao8 t258.length co8, .int .i64 t261, .bool true, .bool t263] 72 (0, 0)) (by (with_reducible repeat (first | refine zai ?_ _ | refine zak ?_ | refine zaj ?_ _)); exact BK264.out) hb); have n2_ := zae.mk (zaq (by repeat with_reducible first | exact HB.out | apply zad | apply zaa | apply zac | refine zag ?_ GE264.out) hb); have n3_ := zae.mk (hbox); have n4_ := zae.mk ((by rw [hg]; exact (zav (by repeat with_reducible first | exact HB.out | apply zad | apply zaa | apply zac | refine zag ?_ GE264.out)) : w.heap.size ≤ gb270)); have n5_ := zae.mk ((by rw [hg]; exact (zav (by repeat with_reducible first | exact HB.out | apply zad | apply zaa | apply zac | refine zag ?_ GE264.out)) : w.heap.size ≤ gb270)); have n6_ := zae.mk ((by rw [hg]; exact Nat.ne_of_lt (zca (g := gb264) (o := .cells #[.slice Ao8 t258.length co8, .int .i64 t261, .bool true, .bool t263] 72 (0, 0)) (by (with_reducible repeat (first | refine zai ?_ _ | refine zak ?_ | refine zaj ?_ _)); exact BK264.out)) : gb264 ≠ gb270)); have n7_ := zae.mk ((by rw [hg]; exact Nat.ne_of_gt (zca (g := gb264) (o := .cells #[.slice Ao8 t258.length co8, .int .i64 t261, .bool true, .bool t263] 72 (0, 0)) (by (with_reducible repeat (first | refine zai ?_ _ | refine zak ?_ | refine zaj ?_ _)); exact BK264.out)) : gb270 ≠ gb264)); clear HO_265000; clear BK264; clear HB; have HO_265000 := n0_; have BK264 := n1_; have HB := n2_; have BK270 := n3_; have GW270 := n4_; have GE270 := n5_; have NB264_270 := n6_; have NB270_264 := n7_; clear n0_ n1_ n2_ n3_ n4_ n5_ n6_ n7_; clear hb hbox hg; have hnb48 := NB270_264.out; have hnc48 := NB264_270.out; obtain ⟨d49_0, d49_1, d49_2⟩ := cq3 BK270.out; obtain ⟨e49_0, e49_1, e49_2⟩ := fq3 BK270.out))
          have n0_ : zae (Kd.R (Kd.int .i64) 3 (((w47.setCell ⟨gb270, 0, none⟩ (.int .i64 0)).setCell ⟨gb270, 1, none⟩ (.int .i64 0)).setCell ⟨gb270, 2, none⟩ (.string (⟨#[]⟩ : ByteArray))) w.heap.size (fun _ => True) (.slice Ao8 t258.length co8) t258) := ⟨by (with_reducible repeat (first | apply Kd.R_alloc | apply Kd.zbm | apply Kd.zbs)); exact Kd.zcb (Kd.R_far (p := ⟨gb270, 2, none⟩) (Kd.R_far (p := ⟨gb270, 1, none⟩) (Kd.R_far (p := ⟨gb270, 0, none⟩) (Kd.zck HO_265000.out BK270.out (by decide)) (fun _ hk => hk.2) (.int .i64 0)) (fun _ hk => hk.2) (.int .i64 0)) (fun _ hk => hk.2) (.string (⟨#[]⟩ : ByteArray))) (fun _ hk => trivial)⟩
          have n1_ : zae ((((w47.setCell ⟨gb270, 0, none⟩ (.int .i64 0)).setCell ⟨gb270, 1, none⟩ (.int .i64 0)).setCell ⟨gb270, 2, none⟩ (.string (⟨#[]⟩ : ByteArray))).heap[gb264]? = some (.cells #[.slice Ao8 t258.length co8, .int .i64 t261, .bool true, .bool t263] 72 (0, 0))) := ⟨by (with_reducible repeat (first | refine zai ?_ _ | refine zak ?_ | refine zaj ?_ _)); refine zb7 ?_ NB264_270.out _; (with_reducible repeat (first | refine zai ?_ _ | refine zak ?_ | refine zaj ?_ _)); refine zb7 ?_ NB264_270.out _; (with_reducible repeat (first | refine zai ?_ _ | refine zak ?_ | refine zaj ?_ _)); refine zb7 ?_ NB264_270.out _; (with_reducible repeat (first | refine zai ?_ _ | refine zak ?_ | refine zaj ?_ _)); exact BK264.out⟩
          have n2_ : zae ((((w47.setCell ⟨gb270, 0, none⟩ (.int .i64 0)).setCell ⟨gb270, 1, none⟩ (.int .i64 0)).setCell ⟨gb270, 2, none⟩ (.string (⟨#[]⟩ : ByteArray))).heap[gb270]? = some (.cells #[.int .i64 0, .int .i64 0, .string (⟨#[]⟩ : ByteArray)] 38 (0, 0))) := ⟨by (with_reducible repeat (first | refine zai ?_ _ | refine zak ?_ | refine zaj ?_ _)); refine pq3 (.int .i64 0) (.int .i64 0) (.string (⟨#[]⟩ : ByteArray)) ?_; (with_reducible repeat (first | refine zai ?_ _ | refine zak ?_ | refine zaj ?_ _)); exact BK270.out⟩
          have n3_ : zae (Below w.heap.size w (((w47.setCell ⟨gb270, 0, none⟩ (.int .i64 0)).setCell ⟨gb270, 1, none⟩ (.int .i64 0)).setCell ⟨gb270, 2, none⟩ (.string (⟨#[]⟩ : ByteArray)))) := ⟨by repeat with_reducible first | exact HB.out | apply zad | apply zaa | apply zac | refine zag ?_ GE264.out | refine zag ?_ GE270.out⟩
          try clear HO_265000
          try clear BK264
          try clear BK270
          try clear HB
          generalize (((w47.setCell ⟨gb270, 0, none⟩ (.int .i64 0)).setCell ⟨gb270, 1, none⟩ (.int .i64 0)).setCell ⟨gb270, 2, none⟩ (.string (⟨#[]⟩ : ByteArray))) = w50 at n0_ n1_ n2_ n3_ ⊢
          have HO_265000 := n0_
          have BK264 := n1_
          have BK270 := n2_
          have HB := n3_
          clear n0_ n1_ n2_ n3_
          have n0_ := zae.mk (Kd.zbs HO_265000.out)
          have n1_ := zae.mk (zak BK264.out)
          have n2_ := zae.mk (zak BK270.out)
          have n3_ := zae.mk (zac HB.out)
          clear HO_265000
          clear BK264
          clear BK270
          clear HB
          have HO_265000 := n0_
          have BK264 := n1_
          have BK270 := n2_
          have HB := n3_
          clear n0_ n1_ n2_ n3_
          have p271 : 0 ≤ (0 : Int) := (by omega)
          have q271 : 0 < (l2.length : Int) := of_decide_eq_true (by first | (with_reducible assumption) | assumption)
          obtain ⟨ad271, e271, hx271_0, hx271_1, hx271_2⟩ := zcm HR2.out 0 p271 q271
          have hw271_2 := hx271_2
          (try rw [show ((0 : Int)).toNat = 0 from rfl] at hw271_2)
          (try rw [show 0 * 3 = 0 from rfl] at hw271_2)
          (try rw [Addr.add_zero'] at hw271_2)
          have hw271_1 := hx271_1
          (try rw [show ((0 : Int)).toNat = 0 from rfl] at hw271_1)
          (try rw [show 0 * 3 = 0 from rfl] at hw271_1)
          (try rw [Addr.add_zero'] at hw271_1)
          have hw271_0 := hx271_0
          (try rw [show ((0 : Int)).toNat = 0 from rfl] at hw271_0)
          (try rw [show 0 * 3 = 0 from rfl] at hw271_0)
          (try rw [Addr.add_zero'] at hw271_0)
          cases e271
          have qi271 : (0 < l2.length) = True := eq_true (by omega)
          (try rw [show ((0 : Int)).toNat = 0 from rfl] at hx271_0)
          (try rw [show 0 * 3 = 0 from rfl] at hx271_0)
          (try rw [Addr.add_zero'] at hx271_0)
          (try rw [show ((0 : Int)).toNat = 0 from rfl] at hx271_1)
          (try rw [show 0 * 3 = 0 from rfl] at hx271_1)
          (try rw [Addr.add_zero'] at hx271_1)
          (try rw [show ((0 : Int)).toNat = 0 from rfl] at hx271_2)
          (try rw [show 0 * 3 = 0 from rfl] at hx271_2)
          (try rw [Addr.add_zero'] at hx271_2)
          replace hx271_0 := zab HB.out hx271_0
          replace hx271_1 := zab HB.out hx271_1
          replace hx271_2 := zab HB.out hx271_2
          replace p271 := eq_true p271
          replace q271 := eq_true q271
          have p276 : 0 ≤ (0 : Int) := (by omega)
          have q276 : 0 < (l2.length : Int) := of_decide_eq_true (by first | (with_reducible assumption) | assumption)
          obtain ⟨ad276, e276, hx276_0, hx276_1, hx276_2⟩ := zcm HR2.out 0 p276 q276
          have hw276_2 := hx276_2
          (try rw [show ((0 : Int)).toNat = 0 from rfl] at hw276_2)
          (try rw [show 0 * 3 = 0 from rfl] at hw276_2)
          (try rw [Addr.add_zero'] at hw276_2)
          have hw276_1 := hx276_1
          (try rw [show ((0 : Int)).toNat = 0 from rfl] at hw276_1)
          (try rw [show 0 * 3 = 0 from rfl] at hw276_1)
          (try rw [Addr.add_zero'] at hw276_1)
          have hw276_0 := hx276_0
          (try rw [show ((0 : Int)).toNat = 0 from rfl] at hw276_0)
          (try rw [show 0 * 3 = 0 from rfl] at hw276_0)
          (try rw [Addr.add_zero'] at hw276_0)
          obtain rfl : ad271 = ad276 := (by injection e276)
          have qi276 : (0 < l2.length) = True := eq_true (by omega)
          (try rw [show ((0 : Int)).toNat = 0 from rfl] at hx276_0)
          (try rw [show 0 * 3 = 0 from rfl] at hx276_0)
          (try rw [Addr.add_zero'] at hx276_0)
          (try rw [show ((0 : Int)).toNat = 0 from rfl] at hx276_1)
          (try rw [show 0 * 3 = 0 from rfl] at hx276_1)
          (try rw [Addr.add_zero'] at hx276_1)
          (try rw [show ((0 : Int)).toNat = 0 from rfl] at hx276_2)
          (try rw [show 0 * 3 = 0 from rfl] at hx276_2)
          (try rw [Addr.add_zero'] at hx276_2)
          replace hx276_0 := zab HB.out hx276_0
          replace hx276_1 := zab HB.out hx276_1
          replace hx276_2 := zab HB.out hx276_2
          replace p276 := eq_true p276
          replace q276 := eq_true q276
          refine zcp (n := 17) (S := fun w' => w'.cell? ⟨gb264, 0, none⟩ = some (.slice Ao8 t258.length co8) ∧ w'.cell? ⟨gb264, 1, none⟩ = some (.int .i64 t261) ∧ w'.cell? ⟨gb264, 2, none⟩ = some (.bool true) ∧ w'.cell? ⟨gb264, 3, none⟩ = some (.bool t263) ∧ w'.cell? ⟨gb270, 0, none⟩ = some (.int .i64 0) ∧ w'.cell? ⟨gb270, 1, none⟩ = some (.int .i64 0) ∧ w'.cell? ⟨gb270, 2, none⟩ = some (.string (⟨#[]⟩ : ByteArray)) ∧ w'.cell? ad271 = some (.int .i64 ((zap l2 0).f0)) ∧ w'.cell? ⟨ad271.block, ad271.off + 1, none⟩ = some (.int .i64 ((zap l2 0).f1)) ∧ w'.cell? ⟨ad271.block, ad271.off + 2, none⟩ = some (.string ((zap l2 0).f2)) ∧ w'.cell? ad271 = some (.int .i64 ((zap l2 0).f0)) ∧ w'.cell? ⟨ad271.block, ad271.off + 1, none⟩ = some (.int .i64 ((zap l2 0).f1)) ∧ w'.cell? ⟨ad271.block, ad271.off + 2, none⟩ = some (.string ((zap l2 0).f2))) (ds := []) #[false, false, false, false, false, false, false, false, false, false, false, false, false, false, false, false, false] (by kernel_rfl) rfl rfl ⟨(zaf BK264.out 0).trans rfl, (zaf BK264.out 1).trans rfl, (zaf BK264.out 2).trans rfl, (zaf BK264.out 3).trans rfl, (zaf BK270.out 0).trans rfl, (zaf BK270.out 1).trans rfl, (zaf BK270.out 2).trans rfl, (zab HB.out hw271_0), (zab HB.out hw271_1), (zab HB.out hw271_2), (zab HB.out hw276_0), (zab HB.out hw276_1), (zab HB.out hw276_2)⟩ (fun hHeld => ?_); refine zci zat.tab19 zat.bits19 (fun HT_ HW_ => ?_)
          generalize w50.drew = w51 at HO_265000 BK264 BK270 HB hx271_0 hx271_1 hx271_2 hx276_0 hx276_1 hx276_2 hHeld ⊢
          refine pz_ 0 64 ?_ ?_ (bz 17 1) rfl rfl (zay HT_.out (by kernel_rfl)) (fun _ _ _ h => h) (Or.inl ⟨by rfl, ?_⟩) ?_ ?_; rotate_left 2; (intro w'; go_simp; with_reducible rfl); (simp only [zps]; rfl)
          refine pz_ 2 66 ?_ ?_ (bz 17 5) rfl rfl (zay HT_.out (by kernel_rfl)) (fun _ _ _ h => h) (Or.inl ⟨by rfl, ?_⟩) ?_ ?_; rotate_left 2; (intro w'; go_simp; with_reducible rfl); (simp only [zps]; rfl)
          refine pz_ 3 67 ?_ ?_ (bz 17 13) rfl rfl (zay HT_.out (by kernel_rfl)) (fun _ _ _ h => h) (Or.inl ⟨by rfl, ?_⟩) ?_ ?_; rotate_left 2; (intro w'; go_simp; with_reducible rfl); (simp only [zps]; rfl)
          refine tz_ 1 65 ?_ ?_ (bz 17 15) rfl rfl (zbt HT_.out HW_.out (by kernel_rfl)) (fun _ _ _ h => h) (Or.inl ⟨by rfl, ?_⟩) hHeld ?_ ?_; rotate_left 2; (rintro w' ⟨s0, s1, s2, s3, s4, s5, s6, s7, s8, s9, s10, s11, s12⟩; go_simp; with_reducible rfl); (simp only [zps]; rfl)
          refine tz_ 4 68 ?_ ?_ (bz 17 31) rfl rfl (zbt HT_.out HW_.out (by kernel_rfl)) (fun _ _ _ h => h) (Or.inl ⟨by rfl, ?_⟩) hHeld ?_ ?_; rotate_left 2; (rintro w' ⟨s0, s1, s2, s3, s4, s5, s6, s7, s8, s9, s10, s11, s12⟩; go_simp; with_reducible rfl); (simp only [zps]; rfl)
          refine one_ (i := 5) (N := some 69) (bz 17 63) rfl rfl (one_of HT_.out (by kernel_rfl)) (by decide) (fun K hK => ?_)
          refine goes_ Tryd.func39 (by kernel_rfl) rfl #[.int .i64 t261, .agg #[.int .i64 ((zap l2 0).f0), .int .i64 ((zap l2 0).f1), .string ((zap l2 0).f2)]] (by rfl) rfl rfl (by (try simp only [List.map_toArray, List.map_cons, List.map_nil]); first | done | rfl | (simp only [List.length_drop, List.length_take]; rfl)) ?_
          with_reducible refine (za1.calls kj4 t261 ((zap l2 0).f0) ((zap l2 0).f1) ((zap l2 0).f2) false _ A32.out).mono ?_
          rintro e w52 ⟨rfl, hb⟩
          refine ⟨_, rfl, ?_⟩
          have n0_ := zae.mk (Kd.zb8 (by (with_reducible repeat (first | apply Kd.R_alloc | apply Kd.zbm | apply Kd.zbs)); exact HO_265000.out) hb)
          have n1_ := zae.mk (zau (g := gb264) (o := .cells #[.slice Ao8 t258.length co8, .int .i64 t261, .bool true, .bool t263] 72 (0, 0)) (by (with_reducible repeat (first | refine zai ?_ _ | refine zak ?_ | refine zaj ?_ _)); exact BK264.out) hb)
          have n2_ := zae.mk (zau (g := gb270) (o := .cells #[.int .i64 0, .int .i64 0, .string (⟨#[]⟩ : ByteArray)] 38 (0, 0)) (by (with_reducible repeat (first | refine zai ?_ _ | refine zak ?_ | refine zaj ?_ _)); exact BK270.out) hb)
          have n3_ := zae.mk (zaq (by repeat with_reducible first | exact HB.out | apply zad | apply zaa | apply zac | refine zag ?_ GE264.out | refine zag ?_ GE270.out) hb)
          clear HO_265000
          clear BK264
          clear BK270
          clear HB
          have HO_265000 := n0_
          have BK264 := n1_
          have BK270 := n2_
          have HB := n3_
          clear n0_ n1_ n2_ n3_
          try clear hb
          try clear hb2
          try clear hk
          try clear hi
          refine hK.out _ _ ⟨(zaf BK264.out 0).trans rfl, (zaf BK264.out 1).trans rfl, (zaf BK264.out 2).trans rfl, (zaf BK264.out 3).trans rfl, (zaf BK270.out 0).trans rfl, (zaf BK270.out 1).trans rfl, (zaf BK270.out 2).trans rfl, (zab HB.out hw271_0), (zab HB.out hw271_1), (zab HB.out hw271_2), (zab HB.out hw276_0), (zab HB.out hw276_1), (zab HB.out hw276_2)⟩ (fun hHeld => ?_)
          clear hK K
          refine norm_ (a' := ?_) ?_ ?_
          rotate_left
          ·show Act.put _ (some 69) _ = _
           simp only [zps]
           rfl
          refine pz_ 6 70 ?_ ?_ (bz 17 127) rfl rfl (zay HT_.out (by kernel_rfl)) (fun _ _ _ h => h) (Or.inl ⟨by rfl, ?_⟩) ?_ ?_; rotate_left 2; (intro w'; go_simp; with_reducible rfl); (simp only [zps]; rfl)
          refine pz_ 7 71 ?_ ?_ (bz 17 255) rfl rfl (zay HT_.out (by kernel_rfl)) (fun _ _ _ h => h) (Or.inl ⟨by rfl, ?_⟩) ?_ ?_; rotate_left 2; (intro w'; go_simp; with_reducible rfl); (simp only [zps]; rfl)
          refine tz_ 8 72 ?_ ?_ (bz 17 511) rfl rfl (zbt HT_.out HW_.out (by kernel_rfl)) (fun _ _ _ h => h) (Or.inl ⟨by rfl, ?_⟩) hHeld ?_ ?_; rotate_left 2; (rintro w' ⟨s0, s1, s2, s3, s4, s5, s6, s7, s8, s9, s10, s11, s12⟩; go_simp; with_reducible rfl); (simp only [zps]; rfl)
          refine pz_ 9 73 ?_ ?_ (bz 17 1023) rfl rfl (zay HT_.out (by kernel_rfl)) (fun _ _ _ h => h) (Or.inl ⟨by rfl, ?_⟩) ?_ ?_; rotate_left 2; (intro w'; go_simp; with_reducible rfl); (simp only [zps]; rfl)
          refine pz_ 10 74 ?_ ?_ (bz 17 2047) rfl rfl (zay HT_.out (by kernel_rfl)) (fun _ _ _ h => h) (Or.inl ⟨by rfl, ?_⟩) ?_ ?_; rotate_left 2; (intro w'; go_simp; with_reducible rfl); (simp only [zps]; rfl)
          refine pz_ 11 75 ?_ ?_ (bz 17 4095) rfl rfl (zay HT_.out (by kernel_rfl)) (fun _ _ _ h => h) (Or.inl ⟨by rfl, ?_⟩) ?_ ?_; rotate_left 2; (intro w'; go_simp; with_reducible rfl); (simp only [zps]; rfl)
          refine tz_ 12 76 ?_ ?_ (bz 17 8191) rfl rfl (zbt HT_.out HW_.out (by kernel_rfl)) (fun _ _ _ h => h) (Or.inl ⟨by rfl, ?_⟩) hHeld ?_ ?_; rotate_left 2; (rintro w' ⟨s0, s1, s2, s3, s4, s5, s6, s7, s8, s9, s10, s11, s12⟩; go_simp; with_reducible rfl); (simp only [zps]; rfl)
          refine tz_ 13 77 ?_ ?_ (bz 17 16383) rfl rfl (zbt HT_.out HW_.out (by kernel_rfl)) (fun _ _ _ h => h) (Or.inl ⟨by rfl, ?_⟩) hHeld ?_ ?_; rotate_left 2; (rintro w' ⟨s0, s1, s2, s3, s4, s5, s6, s7, s8, s9, s10, s11, s12⟩; go_simp; with_reducible rfl); (simp only [zps]; rfl)
          refine pz_ 14 78 ?_ ?_ (bz 17 32767) rfl rfl (zay HT_.out (by kernel_rfl)) (fun _ _ _ h => h) (Or.inl ⟨by rfl, ?_⟩) ?_ ?_; rotate_left 2; (intro w'; go_simp; with_reducible rfl); (simp only [zps]; rfl)
          refine pz_ 15 79 ?_ ?_ (bz 17 65535) rfl rfl (zay HT_.out (by kernel_rfl)) (fun _ _ _ h => h) (Or.inl ⟨by rfl, ?_⟩) ?_ ?_; rotate_left 2; (intro w'; go_simp; with_reducible rfl); (simp only [zps]; rfl)
          refine pz_ 16 80 ?_ ?_ (bz 17 131071) rfl rfl (zay HT_.out (by kernel_rfl)) (fun _ _ _ h => h) (Or.inl ⟨by rfl, ?_⟩) ?_ ?_; rotate_left 2; (intro w'; go_simp; with_reducible rfl); (simp only [zps]; rfl)
          refine done_ (zcv HT_.out (by kernel_rfl)) ?_
          obtain ⟨d53_0, d53_1, d53_2, d53_3⟩ := cq4 BK264.out
          obtain ⟨e53_0, e53_1, e53_2, e53_3⟩ := fq4 BK264.out
          try go_wp2_with (first | ((with_reducible refine za8 (N := 83) rfl ?_); (try (refine zcg (by rfl) ?_; dsimp only)); refine Kd.R_lit (Kd.int .i64) _ 3 ?hg (N := 83) ?hd (xs := ([t261] : List Int)) (inner := [.int .i64 t261]) (ok := fun _ => True) (okp := fun _ => True) ?hr ?hp (fun _ hk => hk) trivial (Below.refl _ _) (Nat.le_refl _) (by simp) ?_; (case hd => rfl); (case hg => rfl); (case hr => first | (go_simp; done) | (go_simp; rfl)); (case hp => exact (Reps.one (show Kd.M (Kd.int .i64) _ _ _ t261 [.int .i64 t261] from rfl) (Reps.none _ _))); intro v278 w54 ho55 hb hg_ hnew_; clear hg_ hnew_; (first | rw [← Ny277.out] at ho55 | (simp only [Int.reduceToNat] at ho55; rw [← Ny277.out] at ho55)); have n0_ := zae.mk (Kd.R_elder' (by (with_reducible repeat (first | apply Kd.R_alloc | apply Kd.zbm | apply Kd.zbs)); exact HO_265000.out) (Kd.R_base ho55) hb); have n1_ := zae.mk (Kd.zcd (Kd.R_new' ho55 (Kd.R_lt (by (with_reducible repeat (first | apply Kd.R_alloc | apply Kd.zbm | apply Kd.zbs)); exact HO_265000.out))) (zav (by repeat with_reducible first | exact HB.out | apply zad | apply zaa | apply zac | refine zag ?_ GE264.out | refine zag ?_ GE270.out))); have n2_ := zae.mk (zau (g := gb264) (o := .cells #[.slice Ao8 t258.length co8, .int .i64 t261, .bool true, .bool t263] 72 (0, 0)) (by (with_reducible repeat (first | refine zai ?_ _ | refine zak ?_ | refine zaj ?_ _)); exact BK264.out) hb); have n3_ := zae.mk (zau (g := gb270) (o := .cells #[.int .i64 0, .int .i64 0, .string (⟨#[]⟩ : ByteArray)] 38 (0, 0)) (by (with_reducible repeat (first | refine zai ?_ _ | refine zak ?_ | refine zaj ?_ _)); exact BK270.out) hb); have n4_ := zae.mk (zaq (by repeat with_reducible first | exact HB.out | apply zad | apply zaa | apply zac | refine zag ?_ GE264.out | refine zag ?_ GE270.out) hb); clear HO_265000; clear BK264; clear BK270; clear HB; have HO_265000 := n0_; have HO279 := n1_; have BK264 := n2_; have BK270 := n3_; have HB := n4_; clear n0_ n1_ n2_ n3_ n4_; clear hb ho55))
          go_ret2
          exact ⟨_, by first | rfl | (simp [zam, zal] <;> rfl) | (simp [*, zam, zal] <;> rfl), by (with_reducible repeat (first | apply Kd.R_alloc | apply Kd.zbm | apply Kd.zbs)); exact Kd.zcb HO279.out (fun _ hk => trivial), by repeat with_reducible first | exact HB.out | apply zad | apply zaa | apply zac | refine zag ?_ GE264.out | refine zag ?_ GE270.out⟩
         ·rw [if_neg c45] at H
          have c45b0 : (((zap l2 0).f0) == 0 && (((zap l2 0).f1) == 0 && ((((zap l2 0).f2).toList) == ([] : List UInt8)))) = false := by simpa using c45
          (try (have c45b5 : (((zap l2 0).f0) == 0 && (((zap l2 0).f1) == 0 && ((((zap l2 0).f2).toList).isEmpty))) = false := by simp only [show ∀ l : List UInt8, l.isEmpty = (l == []) from fun l => by cases l <;> rfl]; exact c45b0))
          (try (have c45b1 : decide (((zap l2 0).f0) = 0 && (((zap l2 0).f1) == 0 && ((((zap l2 0).f2).toList) == ([] : List UInt8)))) = false := by simpa using c45))
          (try (have c45b2 : (((zap l2 0).f0) == 0 && (((zap l2 0).f1) == 0 && ((((zap l2 0).f2).toList) == ([] : List UInt8)))) = false := by simpa using c45))
          (try (have c45b3 : ¬ (((zap l2 0).f0) = 0 && (((zap l2 0).f1) == 0 && ((((zap l2 0).f2).toList) == ([] : List UInt8)))) := by simpa using c45))
          clear c45
          simp only [Option.some.injEq, Prod.mk.injEq] at H
          obtain ⟨rfl, rfl⟩ := H
          obtain ⟨d56_0, d56_1, d56_2, d56_3⟩ := cq4 BK264.out
          obtain ⟨e56_0, e56_1, e56_2, e56_3⟩ := fq4 BK264.out
          try go_wp2_with (first | ((with_reducible refine za8 (N := 12) rfl ?_); (try (refine zcg (by rfl) ?_; dsimp only)); refine za7 ?hg (N := 12) ?hd (cs := #[.int .i64 0, .int .i64 0, .string (⟨#[]⟩ : ByteArray)]) (t := 38) ?hr ?_; (case hd => rfl); (case hg => rfl); (case hr => first | (go_simp; done) | (go_simp; rfl)); intro gb270 hg w57 hbox hb; have n0_ := zae.mk (Kd.zb8 (by (with_reducible repeat (first | apply Kd.R_alloc | apply Kd.zbm | apply Kd.zbs)); exact HO_265000.out) hb); have n1_ := zae.mk (zau (g := gb264) (o := .cells #[.slice Ao8 t258.length co8, .int .i64 t261, .bool true, .bool t263] 72 (0, 0)) (by (with_reducible repeat (first | refine zai ?_ _ | refine zak ?_ | refine zaj ?_ _)); exact BK264.out) hb); have n2_ := zae.mk (zaq (by repeat with_reducible first | exact HB.out | apply zad | apply zaa | apply zac | refine zag ?_ GE264.out) hb); have n3_ := zae.mk (hbox); have n4_ := zae.mk ((by rw [hg]; exact (zav (by repeat with_reducible first | exact HB.out | apply zad | apply zaa | apply zac | refine zag ?_ GE264.out)) : w.heap.size ≤ gb270)); have n5_ := zae.mk ((by rw [hg]; exact (zav (by repeat with_reducible first | exact HB.out | apply zad | apply zaa | apply zac | refine zag ?_ GE264.out)) : w.heap.size ≤ gb270)); have n6_ := zae.mk ((by rw [hg]; exact Nat.ne_of_lt (zca (g := gb264) (o := .cells #[.slice Ao8 t258.length co8, .int .i64 t261, .bool true, .bool t263] 72 (0, 0)) (by (with_reducible repeat (first | refine zai ?_ _ | refine zak ?_ | refine zaj ?_ _)); exact BK264.out)) : gb264 ≠ gb270)); have n7_ := zae.mk ((by rw [hg]; exact Nat.ne_of_gt (zca (g := gb264) (o := .cells #[.slice Ao8 t258.length co8, .int .i64 t261, .bool true, .bool t263] 72 (0, 0)) (by (with_reducible repeat (first | refine zai ?_ _ | refine zak ?_ | refine zaj ?_ _)); exact BK264.out)) : gb270 ≠ gb264)); clear HO_265000; clear BK264; clear HB; have HO_265000 := n0_; have BK264 := n1_; have HB := n2_; have BK270 := n3_; have GW270 := n4_; have GE270 := n5_; have NB264_270 := n6_; have NB270_264 := n7_; clear n0_ n1_ n2_ n3_ n4_ n5_ n6_ n7_; clear hb hbox hg; have hnb58 := NB270_264.out; have hnc58 := NB264_270.out; obtain ⟨d59_0, d59_1, d59_2⟩ := cq3 BK270.out; obtain ⟨e59_0, e59_1, e59_2⟩ := fq3 BK270.out))
          have n0_ : zae (Kd.R (Kd.int .i64) 3 (((w57.setCell ⟨gb270, 0, none⟩ (.int .i64 0)).setCell ⟨gb270, 1, none⟩ (.int .i64 0)).setCell ⟨gb270, 2, none⟩ (.string (⟨#[]⟩ : ByteArray))) w.heap.size (fun _ => True) (.slice Ao8 t258.length co8) t258) := ⟨by (with_reducible repeat (first | apply Kd.R_alloc | apply Kd.zbm | apply Kd.zbs)); exact Kd.zcb (Kd.R_far (p := ⟨gb270, 2, none⟩) (Kd.R_far (p := ⟨gb270, 1, none⟩) (Kd.R_far (p := ⟨gb270, 0, none⟩) (Kd.zck HO_265000.out BK270.out (by decide)) (fun _ hk => hk.2) (.int .i64 0)) (fun _ hk => hk.2) (.int .i64 0)) (fun _ hk => hk.2) (.string (⟨#[]⟩ : ByteArray))) (fun _ hk => trivial)⟩
          have n1_ : zae ((((w57.setCell ⟨gb270, 0, none⟩ (.int .i64 0)).setCell ⟨gb270, 1, none⟩ (.int .i64 0)).setCell ⟨gb270, 2, none⟩ (.string (⟨#[]⟩ : ByteArray))).heap[gb264]? = some (.cells #[.slice Ao8 t258.length co8, .int .i64 t261, .bool true, .bool t263] 72 (0, 0))) := ⟨by (with_reducible repeat (first | refine zai ?_ _ | refine zak ?_ | refine zaj ?_ _)); refine zb7 ?_ NB264_270.out _; (with_reducible repeat (first | refine zai ?_ _ | refine zak ?_ | refine zaj ?_ _)); refine zb7 ?_ NB264_270.out _; (with_reducible repeat (first | refine zai ?_ _ | refine zak ?_ | refine zaj ?_ _)); refine zb7 ?_ NB264_270.out _; (with_reducible repeat (first | refine zai ?_ _ | refine zak ?_ | refine zaj ?_ _)); exact BK264.out⟩
          have n2_ : zae ((((w57.setCell ⟨gb270, 0, none⟩ (.int .i64 0)).setCell ⟨gb270, 1, none⟩ (.int .i64 0)).setCell ⟨gb270, 2, none⟩ (.string (⟨#[]⟩ : ByteArray))).heap[gb270]? = some (.cells #[.int .i64 0, .int .i64 0, .string (⟨#[]⟩ : ByteArray)] 38 (0, 0))) := ⟨by (with_reducible repeat (first | refine zai ?_ _ | refine zak ?_ | refine zaj ?_ _)); refine pq3 (.int .i64 0) (.int .i64 0) (.string (⟨#[]⟩ : ByteArray)) ?_; (with_reducible repeat (first | refine zai ?_ _ | refine zak ?_ | refine zaj ?_ _)); exact BK270.out⟩
          have n3_ : zae (Below w.heap.size w (((w57.setCell ⟨gb270, 0, none⟩ (.int .i64 0)).setCell ⟨gb270, 1, none⟩ (.int .i64 0)).setCell ⟨gb270, 2, none⟩ (.string (⟨#[]⟩ : ByteArray)))) := ⟨by repeat with_reducible first | exact HB.out | apply zad | apply zaa | apply zac | refine zag ?_ GE264.out | refine zag ?_ GE270.out⟩
          try clear HO_265000
          try clear BK264
          try clear BK270
          try clear HB
          generalize (((w57.setCell ⟨gb270, 0, none⟩ (.int .i64 0)).setCell ⟨gb270, 1, none⟩ (.int .i64 0)).setCell ⟨gb270, 2, none⟩ (.string (⟨#[]⟩ : ByteArray))) = w60 at n0_ n1_ n2_ n3_ ⊢
          have HO_265000 := n0_
          have BK264 := n1_
          have BK270 := n2_
          have HB := n3_
          clear n0_ n1_ n2_ n3_
          have n0_ := zae.mk (Kd.zbs HO_265000.out)
          have n1_ := zae.mk (zak BK264.out)
          have n2_ := zae.mk (zak BK270.out)
          have n3_ := zae.mk (zac HB.out)
          clear HO_265000
          clear BK264
          clear BK270
          clear HB
          have HO_265000 := n0_
          have BK264 := n1_
          have BK270 := n2_
          have HB := n3_
          clear n0_ n1_ n2_ n3_
          have p271 : 0 ≤ (0 : Int) := (by omega)
          have q271 : 0 < (l2.length : Int) := of_decide_eq_true (by first | (with_reducible assumption) | assumption)
          obtain ⟨ad271, e271, hx271_0, hx271_1, hx271_2⟩ := zcm HR2.out 0 p271 q271
          have hw271_2 := hx271_2
          (try rw [show ((0 : Int)).toNat = 0 from rfl] at hw271_2)
          (try rw [show 0 * 3 = 0 from rfl] at hw271_2)
          (try rw [Addr.add_zero'] at hw271_2)
          have hw271_1 := hx271_1
          (try rw [show ((0 : Int)).toNat = 0 from rfl] at hw271_1)
          (try rw [show 0 * 3 = 0 from rfl] at hw271_1)
          (try rw [Addr.add_zero'] at hw271_1)
          have hw271_0 := hx271_0
          (try rw [show ((0 : Int)).toNat = 0 from rfl] at hw271_0)
          (try rw [show 0 * 3 = 0 from rfl] at hw271_0)
          (try rw [Addr.add_zero'] at hw271_0)
          cases e271
          have qi271 : (0 < l2.length) = True := eq_true (by omega)
          (try rw [show ((0 : Int)).toNat = 0 from rfl] at hx271_0)
          (try rw [show 0 * 3 = 0 from rfl] at hx271_0)
          (try rw [Addr.add_zero'] at hx271_0)
          (try rw [show ((0 : Int)).toNat = 0 from rfl] at hx271_1)
          (try rw [show 0 * 3 = 0 from rfl] at hx271_1)
          (try rw [Addr.add_zero'] at hx271_1)
          (try rw [show ((0 : Int)).toNat = 0 from rfl] at hx271_2)
          (try rw [show 0 * 3 = 0 from rfl] at hx271_2)
          (try rw [Addr.add_zero'] at hx271_2)
          replace hx271_0 := zab HB.out hx271_0
          replace hx271_1 := zab HB.out hx271_1
          replace hx271_2 := zab HB.out hx271_2
          replace p271 := eq_true p271
          replace q271 := eq_true q271
          have p276 : 0 ≤ (0 : Int) := (by omega)
          have q276 : 0 < (l2.length : Int) := of_decide_eq_true (by first | (with_reducible assumption) | assumption)
          obtain ⟨ad276, e276, hx276_0, hx276_1, hx276_2⟩ := zcm HR2.out 0 p276 q276
          have hw276_2 := hx276_2
          (try rw [show ((0 : Int)).toNat = 0 from rfl] at hw276_2)
          (try rw [show 0 * 3 = 0 from rfl] at hw276_2)
          (try rw [Addr.add_zero'] at hw276_2)
          have hw276_1 := hx276_1
          (try rw [show ((0 : Int)).toNat = 0 from rfl] at hw276_1)
          (try rw [show 0 * 3 = 0 from rfl] at hw276_1)
          (try rw [Addr.add_zero'] at hw276_1)
          have hw276_0 := hx276_0
          (try rw [show ((0 : Int)).toNat = 0 from rfl] at hw276_0)
          (try rw [show 0 * 3 = 0 from rfl] at hw276_0)
          (try rw [Addr.add_zero'] at hw276_0)
          obtain rfl : ad271 = ad276 := (by injection e276)
          have qi276 : (0 < l2.length) = True := eq_true (by omega)
          (try rw [show ((0 : Int)).toNat = 0 from rfl] at hx276_0)
          (try rw [show 0 * 3 = 0 from rfl] at hx276_0)
          (try rw [Addr.add_zero'] at hx276_0)
          (try rw [show ((0 : Int)).toNat = 0 from rfl] at hx276_1)
          (try rw [show 0 * 3 = 0 from rfl] at hx276_1)
          (try rw [Addr.add_zero'] at hx276_1)
          (try rw [show ((0 : Int)).toNat = 0 from rfl] at hx276_2)
          (try rw [show 0 * 3 = 0 from rfl] at hx276_2)
          (try rw [Addr.add_zero'] at hx276_2)
          replace hx276_0 := zab HB.out hx276_0
          replace hx276_1 := zab HB.out hx276_1
          replace hx276_2 := zab HB.out hx276_2
          replace p276 := eq_true p276
          replace q276 := eq_true q276
          refine zcp (n := 17) (S := fun w' => w'.cell? ⟨gb264, 0, none⟩ = some (.slice Ao8 t258.length co8) ∧ w'.cell? ⟨gb264, 1, none⟩ = some (.int .i64 t261) ∧ w'.cell? ⟨gb264, 2, none⟩ = some (.bool true) ∧ w'.cell? ⟨gb264, 3, none⟩ = some (.bool t263) ∧ w'.cell? ⟨gb270, 0, none⟩ = some (.int .i64 0) ∧ w'.cell? ⟨gb270, 1, none⟩ = some (.int .i64 0) ∧ w'.cell? ⟨gb270, 2, none⟩ = some (.string (⟨#[]⟩ : ByteArray)) ∧ w'.cell? ad271 = some (.int .i64 ((zap l2 0).f0)) ∧ w'.cell? ⟨ad271.block, ad271.off + 1, none⟩ = some (.int .i64 ((zap l2 0).f1)) ∧ w'.cell? ⟨ad271.block, ad271.off + 2, none⟩ = some (.string ((zap l2 0).f2)) ∧ w'.cell? ad271 = some (.int .i64 ((zap l2 0).f0)) ∧ w'.cell? ⟨ad271.block, ad271.off + 1, none⟩ = some (.int .i64 ((zap l2 0).f1)) ∧ w'.cell? ⟨ad271.block, ad271.off + 2, none⟩ = some (.string ((zap l2 0).f2))) (ds := []) #[false, false, false, false, false, false, false, false, false, false, false, false, false, false, false, false, false] (by kernel_rfl) rfl rfl ⟨(zaf BK264.out 0).trans rfl, (zaf BK264.out 1).trans rfl, (zaf BK264.out 2).trans rfl, (zaf BK264.out 3).trans rfl, (zaf BK270.out 0).trans rfl, (zaf BK270.out 1).trans rfl, (zaf BK270.out 2).trans rfl, (zab HB.out hw271_0), (zab HB.out hw271_1), (zab HB.out hw271_2), (zab HB.out hw276_0), (zab HB.out hw276_1), (zab HB.out hw276_2)⟩ (fun hHeld => ?_); refine zci zat.tab19 zat.bits19 (fun HT_ HW_ => ?_)
          generalize w60.drew = w61 at HO_265000 BK264 BK270 HB hx271_0 hx271_1 hx271_2 hx276_0 hx276_1 hx276_2 hHeld ⊢
          refine pz_ 0 64 ?_ ?_ (bz 17 1) rfl rfl (zay HT_.out (by kernel_rfl)) (fun _ _ _ h => h) (Or.inl ⟨by rfl, ?_⟩) ?_ ?_; rotate_left 2; (intro w'; go_simp; with_reducible rfl); (simp only [zps]; rfl)
          refine pz_ 2 66 ?_ ?_ (bz 17 5) rfl rfl (zay HT_.out (by kernel_rfl)) (fun _ _ _ h => h) (Or.inl ⟨by rfl, ?_⟩) ?_ ?_; rotate_left 2; (intro w'; go_simp; with_reducible rfl); (simp only [zps]; rfl)
          refine pz_ 3 67 ?_ ?_ (bz 17 13) rfl rfl (zay HT_.out (by kernel_rfl)) (fun _ _ _ h => h) (Or.inl ⟨by rfl, ?_⟩) ?_ ?_; rotate_left 2; (intro w'; go_simp; with_reducible rfl); (simp only [zps]; rfl)
          refine tz_ 1 65 ?_ ?_ (bz 17 15) rfl rfl (zbt HT_.out HW_.out (by kernel_rfl)) (fun _ _ _ h => h) (Or.inl ⟨by rfl, ?_⟩) hHeld ?_ ?_; rotate_left 2; (rintro w' ⟨s0, s1, s2, s3, s4, s5, s6, s7, s8, s9, s10, s11, s12⟩; go_simp; with_reducible rfl); (simp only [zps]; rfl)
          refine tz_ 4 68 ?_ ?_ (bz 17 31) rfl rfl (zbt HT_.out HW_.out (by kernel_rfl)) (fun _ _ _ h => h) (Or.inl ⟨by rfl, ?_⟩) hHeld ?_ ?_; rotate_left 2; (rintro w' ⟨s0, s1, s2, s3, s4, s5, s6, s7, s8, s9, s10, s11, s12⟩; go_simp; with_reducible rfl); (simp only [zps]; rfl)
          refine one_ (i := 5) (N := some 69) (bz 17 63) rfl rfl (one_of HT_.out (by kernel_rfl)) (by decide) (fun K hK => ?_)
          refine goes_ Tryd.func39 (by kernel_rfl) rfl #[.int .i64 t261, .agg #[.int .i64 ((zap l2 0).f0), .int .i64 ((zap l2 0).f1), .string ((zap l2 0).f2)]] (by rfl) rfl rfl (by (try simp only [List.map_toArray, List.map_cons, List.map_nil]); first | done | rfl | (simp only [List.length_drop, List.length_take]; rfl)) ?_
          with_reducible refine (za1.calls kj4 t261 ((zap l2 0).f0) ((zap l2 0).f1) ((zap l2 0).f2) false _ A32.out).mono ?_
          rintro e w62 ⟨rfl, hb⟩
          refine ⟨_, rfl, ?_⟩
          have n0_ := zae.mk (Kd.zb8 (by (with_reducible repeat (first | apply Kd.R_alloc | apply Kd.zbm | apply Kd.zbs)); exact HO_265000.out) hb)
          have n1_ := zae.mk (zau (g := gb264) (o := .cells #[.slice Ao8 t258.length co8, .int .i64 t261, .bool true, .bool t263] 72 (0, 0)) (by (with_reducible repeat (first | refine zai ?_ _ | refine zak ?_ | refine zaj ?_ _)); exact BK264.out) hb)
          have n2_ := zae.mk (zau (g := gb270) (o := .cells #[.int .i64 0, .int .i64 0, .string (⟨#[]⟩ : ByteArray)] 38 (0, 0)) (by (with_reducible repeat (first | refine zai ?_ _ | refine zak ?_ | refine zaj ?_ _)); exact BK270.out) hb)
          have n3_ := zae.mk (zaq (by repeat with_reducible first | exact HB.out | apply zad | apply zaa | apply zac | refine zag ?_ GE264.out | refine zag ?_ GE270.out) hb)
          clear HO_265000
          clear BK264
          clear BK270
          clear HB
          have HO_265000 := n0_
          have BK264 := n1_
          have BK270 := n2_
          have HB := n3_
          clear n0_ n1_ n2_ n3_
          try clear hb
          try clear hb2
          try clear hk
          try clear hi
          refine hK.out _ _ ⟨(zaf BK264.out 0).trans rfl, (zaf BK264.out 1).trans rfl, (zaf BK264.out 2).trans rfl, (zaf BK264.out 3).trans rfl, (zaf BK270.out 0).trans rfl, (zaf BK270.out 1).trans rfl, (zaf BK270.out 2).trans rfl, (zab HB.out hw271_0), (zab HB.out hw271_1), (zab HB.out hw271_2), (zab HB.out hw276_0), (zab HB.out hw276_1), (zab HB.out hw276_2)⟩ (fun hHeld => ?_)
          clear hK K
          refine norm_ (a' := ?_) ?_ ?_
          rotate_left
          ·show Act.put _ (some 69) _ = _
           simp only [zps]
           rfl
          refine pz_ 6 70 ?_ ?_ (bz 17 127) rfl rfl (zay HT_.out (by kernel_rfl)) (fun _ _ _ h => h) (Or.inl ⟨by rfl, ?_⟩) ?_ ?_; rotate_left 2; (intro w'; go_simp; with_reducible rfl); (simp only [zps]; rfl)
          refine pz_ 7 71 ?_ ?_ (bz 17 255) rfl rfl (zay HT_.out (by kernel_rfl)) (fun _ _ _ h => h) (Or.inl ⟨by rfl, ?_⟩) ?_ ?_; rotate_left 2; (intro w'; go_simp; with_reducible rfl); (simp only [zps]; rfl)
          refine tz_ 8 72 ?_ ?_ (bz 17 511) rfl rfl (zbt HT_.out HW_.out (by kernel_rfl)) (fun _ _ _ h => h) (Or.inl ⟨by rfl, ?_⟩) hHeld ?_ ?_; rotate_left 2; (rintro w' ⟨s0, s1, s2, s3, s4, s5, s6, s7, s8, s9, s10, s11, s12⟩; go_simp; with_reducible rfl); (simp only [zps]; rfl)
          refine pz_ 9 73 ?_ ?_ (bz 17 1023) rfl rfl (zay HT_.out (by kernel_rfl)) (fun _ _ _ h => h) (Or.inl ⟨by rfl, ?_⟩) ?_ ?_; rotate_left 2; (intro w'; go_simp; with_reducible rfl); (simp only [zps]; rfl)
          refine pz_ 10 74 ?_ ?_ (bz 17 2047) rfl rfl (zay HT_.out (by kernel_rfl)) (fun _ _ _ h => h) (Or.inl ⟨by rfl, ?_⟩) ?_ ?_; rotate_left 2; (intro w'; go_simp; with_reducible rfl); (simp only [zps]; rfl)
          refine pz_ 11 75 ?_ ?_ (bz 17 4095) rfl rfl (zay HT_.out (by kernel_rfl)) (fun _ _ _ h => h) (Or.inl ⟨by rfl, ?_⟩) ?_ ?_; rotate_left 2; (intro w'; go_simp; with_reducible rfl); (simp only [zps]; rfl)
          refine tz_ 12 76 ?_ ?_ (bz 17 8191) rfl rfl (zbt HT_.out HW_.out (by kernel_rfl)) (fun _ _ _ h => h) (Or.inl ⟨by rfl, ?_⟩) hHeld ?_ ?_; rotate_left 2; (rintro w' ⟨s0, s1, s2, s3, s4, s5, s6, s7, s8, s9, s10, s11, s12⟩; go_simp; with_reducible rfl); (simp only [zps]; rfl)
          refine tz_ 13 77 ?_ ?_ (bz 17 16383) rfl rfl (zbt HT_.out HW_.out (by kernel_rfl)) (fun _ _ _ h => h) (Or.inl ⟨by rfl, ?_⟩) hHeld ?_ ?_; rotate_left 2; (rintro w' ⟨s0, s1, s2, s3, s4, s5, s6, s7, s8, s9, s10, s11, s12⟩; go_simp; with_reducible rfl); (simp only [zps]; rfl)
          refine pz_ 14 78 ?_ ?_ (bz 17 32767) rfl rfl (zay HT_.out (by kernel_rfl)) (fun _ _ _ h => h) (Or.inl ⟨by rfl, ?_⟩) ?_ ?_; rotate_left 2; (intro w'; go_simp; with_reducible rfl); (simp only [zps]; rfl)
          refine pz_ 15 79 ?_ ?_ (bz 17 65535) rfl rfl (zay HT_.out (by kernel_rfl)) (fun _ _ _ h => h) (Or.inl ⟨by rfl, ?_⟩) ?_ ?_; rotate_left 2; (intro w'; go_simp; with_reducible rfl); (simp only [zps]; rfl)
          refine pz_ 16 80 ?_ ?_ (bz 17 131071) rfl rfl (zay HT_.out (by kernel_rfl)) (fun _ _ _ h => h) (Or.inl ⟨by rfl, ?_⟩) ?_ ?_; rotate_left 2; (intro w'; go_simp; with_reducible rfl); (simp only [zps]; rfl)
          refine done_ (zcv HT_.out (by kernel_rfl)) ?_
          try go_wp2
          go_ret2
          exact ⟨_, by first | rfl | (simp [zam, zal] <;> rfl) | (simp [*, zam, zal] <;> rfl), by first | exact Kd.R_nil _ _ _ _ _ | exact Kd.N_nil _ _ _ _ _ | exact Kd.V_nil _ _ _ _ _ | exact Kd.Q_nil _ _ _ _ _ | exact Kd.S_nil _ _ _ _ _, by repeat with_reducible first | exact HB.out | apply zad | apply zaa | apply zac | refine zag ?_ GE264.out | refine zag ?_ GE270.out⟩
        ·replace c44 := Bool.eq_false_iff.mpr c44
         subst c44
         have H1 : (some (([] : List Int), false)) = some (r1, r2) := by rw [if_neg (show ¬ (false = true) by decide)] at H; exact H
         clear H
         have H := H1
         clear H1
         simp only [Option.some.injEq, Prod.mk.injEq] at H
         obtain ⟨rfl, rfl⟩ := H
         obtain ⟨d63_0, d63_1, d63_2, d63_3⟩ := cq4 BK264.out
         obtain ⟨e63_0, e63_1, e63_2, e63_3⟩ := fq4 BK264.out
         try go_wp2_with (first | ((with_reducible refine za8 (N := 12) rfl ?_); (try (refine zcg (by rfl) ?_; dsimp only)); refine za7 ?hg (N := 12) ?hd (cs := #[.int .i64 0, .int .i64 0, .string (⟨#[]⟩ : ByteArray)]) (t := 38) ?hr ?_; (case hd => rfl); (case hg => rfl); (case hr => first | (go_simp; done) | (go_simp; rfl)); intro gb270 hg w64 hbox hb; have n0_ := zae.mk (Kd.zb8 (by (with_reducible repeat (first | apply Kd.R_alloc | apply Kd.zbm | apply Kd.zbs)); exact HO_265000.out) hb); have n1_ := zae.mk (zau (g := gb264) (o := .cells #[.slice Ao8 t258.length co8, .int .i64 t261, .bool false, .bool t263] 72 (0, 0)) (by (with_reducible repeat (first | refine zai ?_ _ | refine zak ?_ | refine zaj ?_ _)); exact BK264.out) hb); have n2_ := zae.mk (zaq (by repeat with_reducible first | exact HB.out | apply zad | apply zaa | apply zac | refine zag ?_ GE264.out) hb); have n3_ := zae.mk (hbox); have n4_ := zae.mk ((by rw [hg]; exact (zav (by repeat with_reducible first | exact HB.out | apply zad | apply zaa | apply zac | refine zag ?_ GE264.out)) : w.heap.size ≤ gb270)); have n5_ := zae.mk ((by rw [hg]; exact (zav (by repeat with_reducible first | exact HB.out | apply zad | apply zaa | apply zac | refine zag ?_ GE264.out)) : w.heap.size ≤ gb270)); have n6_ := zae.mk ((by rw [hg]; exact Nat.ne_of_lt (zca (g := gb264) (o := .cells #[.slice Ao8 t258.length co8, .int .i64 t261, .bool false, .bool t263] 72 (0, 0)) (by (with_reducible repeat (first | refine zai ?_ _ | refine zak ?_ | refine zaj ?_ _)); exact BK264.out)) : gb264 ≠ gb270)); have n7_ := zae.mk ((by rw [hg]; exact Nat.ne_of_gt (zca (g := gb264) (o := .cells #[.slice Ao8 t258.length co8, .int .i64 t261, .bool false, .bool t263] 72 (0, 0)) (by (with_reducible repeat (first | refine zai ?_ _ | refine zak ?_ | refine zaj ?_ _)); exact BK264.out)) : gb270 ≠ gb264)); clear HO_265000; clear BK264; clear HB; have HO_265000 := n0_; have BK264 := n1_; have HB := n2_; have BK270 := n3_; have GW270 := n4_; have GE270 := n5_; have NB264_270 := n6_; have NB270_264 := n7_; clear n0_ n1_ n2_ n3_ n4_ n5_ n6_ n7_; clear hb hbox hg; have hnb65 := NB270_264.out; have hnc65 := NB264_270.out; obtain ⟨d66_0, d66_1, d66_2⟩ := cq3 BK270.out; obtain ⟨e66_0, e66_1, e66_2⟩ := fq3 BK270.out))
         have n0_ : zae (Kd.R (Kd.int .i64) 3 (((w64.setCell ⟨gb270, 0, none⟩ (.int .i64 0)).setCell ⟨gb270, 1, none⟩ (.int .i64 0)).setCell ⟨gb270, 2, none⟩ (.string (⟨#[]⟩ : ByteArray))) w.heap.size (fun _ => True) (.slice Ao8 t258.length co8) t258) := ⟨by (with_reducible repeat (first | apply Kd.R_alloc | apply Kd.zbm | apply Kd.zbs)); exact Kd.zcb (Kd.R_far (p := ⟨gb270, 2, none⟩) (Kd.R_far (p := ⟨gb270, 1, none⟩) (Kd.R_far (p := ⟨gb270, 0, none⟩) (Kd.zck HO_265000.out BK270.out (by decide)) (fun _ hk => hk.2) (.int .i64 0)) (fun _ hk => hk.2) (.int .i64 0)) (fun _ hk => hk.2) (.string (⟨#[]⟩ : ByteArray))) (fun _ hk => trivial)⟩
         have n1_ : zae ((((w64.setCell ⟨gb270, 0, none⟩ (.int .i64 0)).setCell ⟨gb270, 1, none⟩ (.int .i64 0)).setCell ⟨gb270, 2, none⟩ (.string (⟨#[]⟩ : ByteArray))).heap[gb264]? = some (.cells #[.slice Ao8 t258.length co8, .int .i64 t261, .bool false, .bool t263] 72 (0, 0))) := ⟨by (with_reducible repeat (first | refine zai ?_ _ | refine zak ?_ | refine zaj ?_ _)); refine zb7 ?_ NB264_270.out _; (with_reducible repeat (first | refine zai ?_ _ | refine zak ?_ | refine zaj ?_ _)); refine zb7 ?_ NB264_270.out _; (with_reducible repeat (first | refine zai ?_ _ | refine zak ?_ | refine zaj ?_ _)); refine zb7 ?_ NB264_270.out _; (with_reducible repeat (first | refine zai ?_ _ | refine zak ?_ | refine zaj ?_ _)); exact BK264.out⟩
         have n2_ : zae ((((w64.setCell ⟨gb270, 0, none⟩ (.int .i64 0)).setCell ⟨gb270, 1, none⟩ (.int .i64 0)).setCell ⟨gb270, 2, none⟩ (.string (⟨#[]⟩ : ByteArray))).heap[gb270]? = some (.cells #[.int .i64 0, .int .i64 0, .string (⟨#[]⟩ : ByteArray)] 38 (0, 0))) := ⟨by (with_reducible repeat (first | refine zai ?_ _ | refine zak ?_ | refine zaj ?_ _)); refine pq3 (.int .i64 0) (.int .i64 0) (.string (⟨#[]⟩ : ByteArray)) ?_; (with_reducible repeat (first | refine zai ?_ _ | refine zak ?_ | refine zaj ?_ _)); exact BK270.out⟩
         have n3_ : zae (Below w.heap.size w (((w64.setCell ⟨gb270, 0, none⟩ (.int .i64 0)).setCell ⟨gb270, 1, none⟩ (.int .i64 0)).setCell ⟨gb270, 2, none⟩ (.string (⟨#[]⟩ : ByteArray)))) := ⟨by repeat with_reducible first | exact HB.out | apply zad | apply zaa | apply zac | refine zag ?_ GE264.out | refine zag ?_ GE270.out⟩
         try clear HO_265000
         try clear BK264
         try clear BK270
         try clear HB
         generalize (((w64.setCell ⟨gb270, 0, none⟩ (.int .i64 0)).setCell ⟨gb270, 1, none⟩ (.int .i64 0)).setCell ⟨gb270, 2, none⟩ (.string (⟨#[]⟩ : ByteArray))) = w67 at n0_ n1_ n2_ n3_ ⊢
         have HO_265000 := n0_
         have BK264 := n1_
         have BK270 := n2_
         have HB := n3_
         clear n0_ n1_ n2_ n3_
         have n0_ := zae.mk (Kd.zbs HO_265000.out)
         have n1_ := zae.mk (zak BK264.out)
         have n2_ := zae.mk (zak BK270.out)
         have n3_ := zae.mk (zac HB.out)
         clear HO_265000
         clear BK264
         clear BK270
         clear HB
         have HO_265000 := n0_
         have BK264 := n1_
         have BK270 := n2_
         have HB := n3_
         clear n0_ n1_ n2_ n3_
         have p271 : 0 ≤ (0 : Int) := (by omega)
         have q271 : 0 < (l2.length : Int) := of_decide_eq_true (by first | (with_reducible assumption) | assumption)
         obtain ⟨ad271, e271, hx271_0, hx271_1, hx271_2⟩ := zcm HR2.out 0 p271 q271
         have hw271_2 := hx271_2
         (try rw [show ((0 : Int)).toNat = 0 from rfl] at hw271_2)
         (try rw [show 0 * 3 = 0 from rfl] at hw271_2)
         (try rw [Addr.add_zero'] at hw271_2)
         have hw271_1 := hx271_1
         (try rw [show ((0 : Int)).toNat = 0 from rfl] at hw271_1)
         (try rw [show 0 * 3 = 0 from rfl] at hw271_1)
         (try rw [Addr.add_zero'] at hw271_1)
         have hw271_0 := hx271_0
         (try rw [show ((0 : Int)).toNat = 0 from rfl] at hw271_0)
         (try rw [show 0 * 3 = 0 from rfl] at hw271_0)
         (try rw [Addr.add_zero'] at hw271_0)
         cases e271
         have qi271 : (0 < l2.length) = True := eq_true (by omega)
         (try rw [show ((0 : Int)).toNat = 0 from rfl] at hx271_0)
         (try rw [show 0 * 3 = 0 from rfl] at hx271_0)
         (try rw [Addr.add_zero'] at hx271_0)
         (try rw [show ((0 : Int)).toNat = 0 from rfl] at hx271_1)
         (try rw [show 0 * 3 = 0 from rfl] at hx271_1)
         (try rw [Addr.add_zero'] at hx271_1)
         (try rw [show ((0 : Int)).toNat = 0 from rfl] at hx271_2)
         (try rw [show 0 * 3 = 0 from rfl] at hx271_2)
         (try rw [Addr.add_zero'] at hx271_2)
         replace hx271_0 := zab HB.out hx271_0
         replace hx271_1 := zab HB.out hx271_1
         replace hx271_2 := zab HB.out hx271_2
         replace p271 := eq_true p271
         replace q271 := eq_true q271
         refine zcp (n := 17) (S := fun w' => w'.cell? ⟨gb264, 0, none⟩ = some (.slice Ao8 t258.length co8) ∧ w'.cell? ⟨gb264, 1, none⟩ = some (.int .i64 t261) ∧ w'.cell? ⟨gb264, 2, none⟩ = some (.bool false) ∧ w'.cell? ⟨gb264, 3, none⟩ = some (.bool t263) ∧ w'.cell? ad271 = some (.int .i64 ((zap l2 0).f0)) ∧ w'.cell? ⟨ad271.block, ad271.off + 1, none⟩ = some (.int .i64 ((zap l2 0).f1)) ∧ w'.cell? ⟨ad271.block, ad271.off + 2, none⟩ = some (.string ((zap l2 0).f2))) (ds := []) #[false, false, false, false, false, false, false, false, false, false, false, false, false, false, false, false, false] (by kernel_rfl) rfl rfl ⟨(zaf BK264.out 0).trans rfl, (zaf BK264.out 1).trans rfl, (zaf BK264.out 2).trans rfl, (zaf BK264.out 3).trans rfl, (zab HB.out hw271_0), (zab HB.out hw271_1), (zab HB.out hw271_2)⟩ (fun hHeld => ?_); refine zci zat.tab19 zat.bits19 (fun HT_ HW_ => ?_)
         generalize w67.drew = w68 at HO_265000 BK264 BK270 HB hx271_0 hx271_1 hx271_2 hHeld ⊢
         refine pz_ 0 64 ?_ ?_ (bz 17 1) rfl rfl (zay HT_.out (by kernel_rfl)) (fun _ _ _ h => h) (Or.inl ⟨by rfl, ?_⟩) ?_ ?_; rotate_left 2; (intro w'; go_simp; with_reducible rfl); (simp only [zps]; rfl)
         refine pz_ 2 66 ?_ ?_ (bz 17 5) rfl rfl (zay HT_.out (by kernel_rfl)) (fun _ _ _ h => h) (Or.inl ⟨by rfl, ?_⟩) ?_ ?_; rotate_left 2; (intro w'; go_simp; with_reducible rfl); (simp only [zps]; rfl)
         refine pz_ 3 67 ?_ ?_ (bz 17 13) rfl rfl (zay HT_.out (by kernel_rfl)) (fun _ _ _ h => h) (Or.inl ⟨by rfl, ?_⟩) ?_ ?_; rotate_left 2; (intro w'; go_simp; with_reducible rfl); (simp only [zps]; rfl)
         refine tz_ 1 65 ?_ ?_ (bz 17 15) rfl rfl (zbt HT_.out HW_.out (by kernel_rfl)) (fun _ _ _ h => h) (Or.inl ⟨by rfl, ?_⟩) hHeld ?_ ?_; rotate_left 2; (rintro w' ⟨s0, s1, s2, s3, s4, s5, s6⟩; go_simp; with_reducible rfl); (simp only [zps]; rfl)
         refine tz_ 4 68 ?_ ?_ (bz 17 31) rfl rfl (zbt HT_.out HW_.out (by kernel_rfl)) (fun _ _ _ h => h) (Or.inl ⟨by rfl, ?_⟩) hHeld ?_ ?_; rotate_left 2; (rintro w' ⟨s0, s1, s2, s3, s4, s5, s6⟩; go_simp; with_reducible rfl); (simp only [zps]; rfl)
         refine one_ (i := 5) (N := some 69) (bz 17 63) rfl rfl (one_of HT_.out (by kernel_rfl)) (by decide) (fun K hK => ?_)
         refine goes_ Tryd.func39 (by kernel_rfl) rfl #[.int .i64 t261, .agg #[.int .i64 ((zap l2 0).f0), .int .i64 ((zap l2 0).f1), .string ((zap l2 0).f2)]] (by rfl) rfl rfl (by (try simp only [List.map_toArray, List.map_cons, List.map_nil]); first | done | rfl | (simp only [List.length_drop, List.length_take]; rfl)) ?_
         with_reducible refine (za1.calls kj4 t261 ((zap l2 0).f0) ((zap l2 0).f1) ((zap l2 0).f2) false _ A32.out).mono ?_
         rintro e w69 ⟨rfl, hb⟩
         refine ⟨_, rfl, ?_⟩
         have n0_ := zae.mk (Kd.zb8 (by (with_reducible repeat (first | apply Kd.R_alloc | apply Kd.zbm | apply Kd.zbs)); exact HO_265000.out) hb)
         have n1_ := zae.mk (zau (g := gb264) (o := .cells #[.slice Ao8 t258.length co8, .int .i64 t261, .bool false, .bool t263] 72 (0, 0)) (by (with_reducible repeat (first | refine zai ?_ _ | refine zak ?_ | refine zaj ?_ _)); exact BK264.out) hb)
         have n2_ := zae.mk (zau (g := gb270) (o := .cells #[.int .i64 0, .int .i64 0, .string (⟨#[]⟩ : ByteArray)] 38 (0, 0)) (by (with_reducible repeat (first | refine zai ?_ _ | refine zak ?_ | refine zaj ?_ _)); exact BK270.out) hb)
         have n3_ := zae.mk (zaq (by repeat with_reducible first | exact HB.out | apply zad | apply zaa | apply zac | refine zag ?_ GE264.out | refine zag ?_ GE270.out) hb)
         clear HO_265000
         clear BK264
         clear BK270
         clear HB
         have HO_265000 := n0_
         have BK264 := n1_
         have BK270 := n2_
         have HB := n3_
         clear n0_ n1_ n2_ n3_
         try clear hb
         try clear hb2
         try clear hk
         try clear hi
         refine hK.out _ _ ⟨(zaf BK264.out 0).trans rfl, (zaf BK264.out 1).trans rfl, (zaf BK264.out 2).trans rfl, (zaf BK264.out 3).trans rfl, (zab HB.out hw271_0), (zab HB.out hw271_1), (zab HB.out hw271_2)⟩ (fun hHeld => ?_)
         clear hK K
         refine norm_ (a' := ?_) ?_ ?_
         rotate_left
         ·show Act.put _ (some 69) _ = _
          simp only [zps]
          rfl
         refine pz_ 6 70 ?_ ?_ (bz 17 127) rfl rfl (zay HT_.out (by kernel_rfl)) (fun _ _ _ h => h) (Or.inl ⟨by rfl, ?_⟩) ?_ ?_; rotate_left 2; (intro w'; go_simp; with_reducible rfl); (simp only [zps]; rfl)
         refine pz_ 7 71 ?_ ?_ (bz 17 255) rfl rfl (zay HT_.out (by kernel_rfl)) (fun _ _ _ h => h) (Or.inl ⟨by rfl, ?_⟩) ?_ ?_; rotate_left 2; (intro w'; go_simp; with_reducible rfl); (simp only [zps]; rfl)
         refine tz_ 8 72 ?_ ?_ (bz 17 511) rfl rfl (zbt HT_.out HW_.out (by kernel_rfl)) (fun _ _ _ h => h) (Or.inl ⟨by rfl, ?_⟩) hHeld ?_ ?_; rotate_left 2; (rintro w' ⟨s0, s1, s2, s3, s4, s5, s6⟩; go_simp; with_reducible rfl); (simp only [zps]; rfl)
         refine pz_ 9 73 ?_ ?_ (bz 17 1023) rfl rfl (zay HT_.out (by kernel_rfl)) (fun _ _ _ h => h) (Or.inl ⟨by rfl, ?_⟩) ?_ ?_; rotate_left 2; (intro w'; go_simp; with_reducible rfl); (simp only [zps]; rfl)
         refine pz_ 10 74 undef ?_ (bz 17 2047) rfl rfl (zay HT_.out (by kernel_rfl)) (fun _ _ _ h => h) (Or.inr ⟨by rfl, rfl⟩) ?_ ?_; rotate_left; (simp only [zps]; rfl)
         refine pz_ 11 75 undef ?_ (bz 17 4095) rfl rfl (zay HT_.out (by kernel_rfl)) (fun _ _ _ h => h) (Or.inr ⟨by rfl, rfl⟩) ?_ ?_; rotate_left; (simp only [zps]; rfl)
         refine pz_ 12 76 undef ?_ (bz 17 8191) rfl rfl (zay HT_.out (by kernel_rfl)) (fun _ _ _ h => h) (Or.inr ⟨by rfl, rfl⟩) ?_ ?_; rotate_left; (simp only [zps]; rfl)
         refine pz_ 13 77 undef ?_ (bz 17 16383) rfl rfl (zay HT_.out (by kernel_rfl)) (fun _ _ _ h => h) (Or.inr ⟨by rfl, rfl⟩) ?_ ?_; rotate_left; (simp only [zps]; rfl)
         refine pz_ 14 78 undef ?_ (bz 17 32767) rfl rfl (zay HT_.out (by kernel_rfl)) (fun _ _ _ h => h) (Or.inr ⟨by rfl, rfl⟩) ?_ ?_; rotate_left; (simp only [zps]; rfl)
         refine pz_ 15 79 ?_ ?_ (bz 17 65535) rfl rfl (zay HT_.out (by kernel_rfl)) (fun _ _ _ h => h) (Or.inl ⟨by rfl, ?_⟩) ?_ ?_; rotate_left 2; (intro w'; go_simp; with_reducible rfl); (simp only [zps]; rfl)
         refine pz_ 16 80 ?_ ?_ (bz 17 131071) rfl rfl (zay HT_.out (by kernel_rfl)) (fun _ _ _ h => h) (Or.inl ⟨by rfl, ?_⟩) ?_ ?_; rotate_left 2; (intro w'; go_simp; with_reducible rfl); (simp only [zps]; rfl)
         refine done_ (zcv HT_.out (by kernel_rfl)) ?_
         try go_wp2
         go_ret2
         exact ⟨_, by first | rfl | (simp [zam, zal] <;> rfl) | (simp [*, zam, zal] <;> rfl), by first | exact Kd.R_nil _ _ _ _ _ | exact Kd.N_nil _ _ _ _ _ | exact Kd.V_nil _ _ _ _ _ | exact Kd.Q_nil _ _ _ _ _ | exact Kd.S_nil _ _ _ _ _, by repeat with_reducible first | exact HB.out | apply zad | apply zaa | apply zac | refine zag ?_ GE264.out | refine zag ?_ GE270.out⟩
      ·rw [if_neg c31] at H
       exact absurd H (by simp)
     ·rw [if_neg c30] at H
      have c30b0 : ((l2.length : Int) == 1) = false := beq_eq_false_iff_ne.mpr c30
      have c30b1 : ((l2.length : Int) != 1) = true := bne_iff_ne.mpr c30
      simp only [Option.some.injEq, Prod.mk.injEq] at H
      obtain ⟨rfl, rfl⟩ := H
      obtain ⟨d70_0, d70_1, d70_2, d70_3⟩ := cq4 BK264.out
      obtain ⟨e70_0, e70_1, e70_2, e70_3⟩ := fq4 BK264.out
      go_wp2
      go_ret2
      exact ⟨_, by first | rfl | (simp [zam, zal] <;> rfl) | (simp [*, zam, zal] <;> rfl), by first | exact Kd.R_nil _ _ _ _ _ | exact Kd.N_nil _ _ _ _ _ | exact Kd.V_nil _ _ _ _ _ | exact Kd.Q_nil _ _ _ _ _ | exact Kd.S_nil _ _ _ _ _, by repeat with_reducible first | exact HB.out | apply zad | apply zaa | apply zac | refine zag ?_ GE264.out⟩
end Go.Proofs.YtikmmigfdchcpaaDoor.PP
