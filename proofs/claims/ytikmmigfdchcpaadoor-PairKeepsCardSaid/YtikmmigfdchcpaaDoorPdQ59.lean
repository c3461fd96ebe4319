/-
  Proved: a part of the proof of the claim's statement (text Q59 of it).
  Conditions: none of ours.
-/
import Derived.Test.YtikmmigfdchcpaaDoorPdQ0
import Derived.Test.YtikmmigfdchcpaaDoorPdQ58
namespace Go.Proofs.YtikmmigfdchcpaaDoor.PP
open Go.RowKit Go.Proofs.YtikmmigfdchcpaaDoorW.PrintWords Go.Proofs.YtikmmigfdchcpaaDoorW.PrintLast Go.Proofs.YtikmmigfdchcpaaDoorW.PrintMore
set_option linter.unusedVariables false
set_option linter.unusedSimpArgs false
def za7.l0 : Nat → List (S47) → List (S47) → Int → Option ((List (S47)))
 | 0, _, _, _ => none
 | k + 1, x0, x3, x4 => if x4 < (x0.length : Int) then (if 0 ≤ x4 then ((zbq.f ((zar x0 x4).f0) ((zar x0 x4).f1.f0) ((zar x0 x4).f1.f1) ((zar x0 x4).f1.f2) ((zar x0 x4).f2) ((zar x0 x4).f3) ((zar x0 x4).f4.f0) ((zar x0 x4).f4.f1) ((zar x0 x4).f4.f2) ((zar x0 x4).f5) ((zar x0 x4).f6) ((zar x0 x4).f7) ((zar x0 x4).f8) ((zar x0 x4).f9)).bind fun bt327 => (if x3.length < 837723144972 then (za7.l0 k x0 (x3 ++ [(⟨bt327.1, (⟨bt327.2.1, bt327.2.2.1, bt327.2.2.2.1⟩ : S38), bt327.2.2.2.2.1, bt327.2.2.2.2.2.1, (⟨bt327.2.2.2.2.2.2.1, bt327.2.2.2.2.2.2.2.1, bt327.2.2.2.2.2.2.2.2.1⟩ : S38), bt327.2.2.2.2.2.2.2.2.2.1, bt327.2.2.2.2.2.2.2.2.2.2.1, bt327.2.2.2.2.2.2.2.2.2.2.2.1, bt327.2.2.2.2.2.2.2.2.2.2.2.2.1, bt327.2.2.2.2.2.2.2.2.2.2.2.2.2⟩ : S47)]) (wrap64 (x4 + 1))) else (none))) else (none)) else (some x3)
def za7.f (k : Nat) (l0 : List (S47)) : Option ((List (S47))) := za7.l0 k l0 ([] : List (S47)) 0
set_option maxHeartbeats 8000000 in
set_option maxRecDepth 100000 in
theorem za7.calls (k : Nat) (A0 : Option Addr) (c0 : Nat) (l0 : List (S47)) (r : List (S47)) (w : World) (hr0 : Kd.C k47 w A0 l0.length l0) (hc0 : l0.length ≤ c0) (h : za7.f k l0 = some r) :
  Calls Tryd.prog 16 #[.slice A0 l0.length c0] w fun e w' => ∃ v0_ : Value, e = .returned (v0_) ∧ Kd.S k47 47 w' w.heap.size (fun _ => True) v0_ r ∧ Below w.heap.size w w' := by
 have hu47 := Tryd.underlying47
 have HR0 := zab.mk hr0
 have HC0 := zab.mk hc0
 clear hr0 hc0
 have HB := zab.mk (Below.refl w.heap.size w)
 have H : (za7.l0 k l0 ([] : List (S47)) 0) = some r := h
 clear h
 have H' := zab.mk H
 clear H
 go_enter Tryd.func16, Tryd.ntmps16
 go_wp2
 go_loopg [3, 4] k (fun kq v3 v4 w' => ∃ (x3_1 : List (S47)) (x4_1 : Int), v4 = .int .i64 x4_1 ∧ zab (za7.l0 kq l0 x3_1 x4_1 = some r) ∧ zab (kq ≤ k) ∧ zab (Kd.S k47 47 w' w.heap.size (fun _ => True) v3 x3_1) ∧ zab (Below w.heap.size w w'))
 case atStart => exact ⟨(([] : List (S47))), (0), (by first | rfl | (simp; done) | (simp [*]; done)), H', ⟨Nat.le_refl _⟩, ⟨by first | exact Kd.S_nil _ _ _ _ _ | exact Kd.N_nil _ _ _ _ _ | exact Kd.V_nil _ _ _ _ _ | exact Kd.Q_nil _ _ _ _ _ | exact Kd.R_nil _ _ _ _ _⟩, ⟨by repeat with_reducible first | exact HB.out | apply zac | apply zaa | apply zad⟩⟩
 case round =>
  clear H'
  try clear c1
  obtain ⟨x3_1, x4_1, rfl, HA, HK1, HO_3, HB⟩ := hrel
  cases gk with
  | zero => exact absurd HA.out (by simp [za7.l0])
  | succ k1 =>
   have H := HA.out
   clear HA
   simp only [za7.l0] at H
   by_cases c2 : x4_1 < (l0.length : Int)
   ·rw [if_pos c2] at H
    have c2b0 : decide (x4_1 < (l0.length : Int)) = true := decide_eq_true c2
    clear c2
    by_cases c3 : 0 ≤ x4_1
    ·rw [if_pos c3] at H
     have c3b0 : decide (0 ≤ x4_1) = true := decide_eq_true c3
     clear c3
     replace H := Option.bind_eq_some_iff.mp H
     obtain ⟨⟨t327, t328, t329, t330, t331, t332, t333, t334, t335, t336, t337, t340, t343, t344⟩, A40, H⟩ := H
     replace H : (if x3_1.length < 837723144972 then (za7.l0 k1 l0 (x3_1 ++ [(⟨t327, (⟨t328, t329, t330⟩ : S38), t331, t332, (⟨t333, t334, t335⟩ : S38), t336, t337, t340, t343, t344⟩ : S47)]) (wrap64 (x4_1 + 1))) else (none)) = some r := H
     have A4 := zab.mk A40
     clear A40
     by_cases c5 : x3_1.length < 837723144972
     ·rw [if_pos c5] at H
      have LMc5 := zab.mk c5
      clear c5
      obtain ⟨y345, hy345⟩ : ∃ y_ : List (S47), y_ = (x3_1 ++ [(⟨t327, (⟨t328, t329, t330⟩ : S38), t331, t332, (⟨t333, t334, t335⟩ : S38), t336, t337, t340, t343, t344⟩ : S47)]) := ⟨_, rfl⟩
      replace H : (za7.l0 k1 l0 y345 (wrap64 (x4_1 + 1))) = some r := by first | (rw [hy345]; with_reducible exact H) | (have H2_ := (Option.bind_some _ _).symm.trans H; rw [hy345]; with_reducible exact H2_) | (have H2_ := (Option.bind_some _ _).symm.trans H; with_reducible exact H2_) | with_reducible exact H | (rw [hy345]; exact H) | exact H
      have Ny345 := zab.mk hy345
      clear hy345
      have H' := zab.mk H
      clear H
      have p326 : 0 ≤ (x4_1 : Int) := of_decide_eq_true (by first | (with_reducible assumption) | assumption)
      have q326 : x4_1 < (l0.length : Int) := of_decide_eq_true (by first | (with_reducible assumption) | assumption)
      obtain ⟨ad326, A326_10, c326_10, A326_11, c326_11, e326, hx326_0, hx326_1, hx326_2, hx326_3, hx326_4, hx326_5, hx326_6, hx326_7, hx326_8, hx326_9, hx326_10, hx326_11, hx326_12, hx326_13, hl326_10, hi326_10, hl326_11, hi326_11⟩ := at_T47 HR0.out x4_1 p326 q326
      cases e326
      replace hx326_0 := zaf HB.out hx326_0
      replace hx326_1 := zaf HB.out hx326_1
      replace hx326_2 := zaf HB.out hx326_2
      replace hx326_3 := zaf HB.out hx326_3
      replace hx326_4 := zaf HB.out hx326_4
      replace hx326_5 := zaf HB.out hx326_5
      replace hx326_6 := zaf HB.out hx326_6
      replace hx326_7 := zaf HB.out hx326_7
      replace hx326_8 := zaf HB.out hx326_8
      replace hx326_9 := zaf HB.out hx326_9
      replace hx326_10 := zaf HB.out hx326_10
      replace hx326_11 := zaf HB.out hx326_11
      replace hx326_12 := zaf HB.out hx326_12
      replace hx326_13 := zaf HB.out hx326_13
      have HR326_10 := zab.mk hi326_10
      have HC326_10 := zab.mk hl326_10
      clear hi326_10 hl326_10
      have HR326_11 := zab.mk hi326_11
      have HC326_11 := zab.mk hl326_11
      clear hi326_11 hl326_11
      replace p326 := eq_true p326
      replace q326 := eq_true q326
      go_wp2_with (first | ((with_reducible refine za5 (f := 26) rfl ?_); refine zbr (some 16) rfl rfl Tryd.func26 (by kernel_rfl) rfl #[.agg #[.int .i64 ((zar l0 x4_1).f0), .int .i64 ((zar l0 x4_1).f1.f0), .int .i64 ((zar l0 x4_1).f1.f1), .string ((zar l0 x4_1).f1.f2), .int .i64 ((zar l0 x4_1).f2), .int .i64 ((zar l0 x4_1).f3), .int .i64 ((zar l0 x4_1).f4.f0), .int .i64 ((zar l0 x4_1).f4.f1), .string ((zar l0 x4_1).f4.f2), .int .i64 ((zar l0 x4_1).f5), .slice A326_10 ((zar l0 x4_1).f6).length c326_10, .slice A326_11 ((zar l0 x4_1).f7).length c326_11, .bool ((zar l0 x4_1).f8), .string ((zar l0 x4_1).f9)]] rfl (by (try simp only [List.map_toArray, List.map_cons, List.map_nil]); first | done | rfl | (simp only [List.length_drop, List.length_take]; rfl)) ?_; (with_reducible refine (zbq.calls ((zar l0 x4_1).f0) ((zar l0 x4_1).f1.f0) ((zar l0 x4_1).f1.f1) ((zar l0 x4_1).f1.f2) ((zar l0 x4_1).f2) ((zar l0 x4_1).f3) ((zar l0 x4_1).f4.f0) ((zar l0 x4_1).f4.f1) ((zar l0 x4_1).f4.f2) ((zar l0 x4_1).f5) _ _ ((zar l0 x4_1).f6) _ _ ((zar l0 x4_1).f7) ((zar l0 x4_1).f8) ((zar l0 x4_1).f9) t327 t328 t329 t330 t331 t332 t333 t334 t335 t336 t337 t340 t343 t344 _ ?side1 ?side2 ?side3 ?side4 A4.out).mono ?_); (case side1 => repeat (first | exact (Kd.zba HR326_10.out HB.out) | (with_reducible refine Kd.zbm ?_ _) | (with_reducible refine Kd.C_drewN ?_ _) | (with_reducible refine Kd.C_drew ?_))); (case side2 => exact HC326_10.out); (case side3 => repeat (first | exact (Kd.zba HR326_11.out HB.out) | (with_reducible refine Kd.zbm ?_ _) | (with_reducible refine Kd.C_drewN ?_ _) | (with_reducible refine Kd.C_drew ?_))); (case side4 => exact HC326_11.out); rintro e w6 ⟨v338, v341, rfl, ho0, ho1, hb⟩; refine ⟨_, rfl, ?_⟩; have n0_ := zab.mk (Kd.S_mono (Kd.S_told (Kd.S_told (Kd.S_old (by (with_reducible repeat (first | apply Kd.S_alloc | apply Kd.S_drewN | apply Kd.S_drew)); exact HO_3.out) hb) (Kd.R_base ho0)) (Kd.R_base ho1)) (fun _ h_ => h_.1)); have n1_ := zab.mk (Kd.zb2 ho0 (zap (by repeat with_reducible first | exact HB.out | apply zac | apply zaa | apply zad))); have n2_ := zab.mk (Kd.zb2 ho1 (zap (by repeat with_reducible first | exact HB.out | apply zac | apply zaa | apply zad))); have n3_ := zab.mk (zam (by repeat with_reducible first | exact HB.out | apply zac | apply zaa | apply zad) hb); clear HO_3; clear HB; have HO_3 := n0_; have HO339 := n1_; have HO342 := n2_; have HB := n3_; clear n0_ n1_ n2_ n3_; (try clear hb); (try clear hb2); (try clear hk); (try clear hi); (try clear ho0); (try clear ho1); obtain ⟨Ao8, co8, eo8⟩ := Kd.zb8 HO339.out; subst eo8; obtain ⟨Ao9, co9, eo9⟩ := Kd.zb8 HO342.out; subst eo9) | ((with_reducible refine zbu (b := .append) (xs := #[.tmp 11, .tmp 17]) rfl ?_); at_builtin; refine Kd.S_append k47 (w0 := w) w.heap.size rfl (.tmp 11) (.tmp 17) 22 47 (.agg #[(.int .i64 0), (.int .i64 0), (.int .i64 0), (.string ⟨#[]⟩), (.int .i64 0), (.int .i64 0), (.int .i64 0), (.int .i64 0), (.string ⟨#[]⟩), (.int .i64 0), (.slice none 0 0), (.slice none 0 0), (.bool false), (.string ⟨#[]⟩)]) 168 rfl Tryd.underlying22 info47 rfl (by decide) (by omega) u3 x3_1 (⟨t327, (⟨t328, t329, t330⟩ : S38), t331, t332, (⟨t333, t334, t335⟩ : S38), t336, t337, t340, t343, t344⟩ : S47) [.int .i64 t327, .int .i64 t328, .int .i64 t329, .string t330, .int .i64 t331, .int .i64 t332, .int .i64 t333, .int .i64 t334, .string t335, .int .i64 t336, .slice Ao8 t337.length co8, .slice Ao9 t340.length co9, .bool t343, .string t344] (fun _ => True) (fun k_ => some k_ = (.slice Ao8 t337.length co8 : Value).ownBlock ∨ some k_ = (.slice Ao9 t340.length co9 : Value).ownBlock) rfl rfl ?aP (fun k_ hk_ => hk_.elim (fun h_ => ((Kd.zbv (ok' := fun k_ => ((fun _ => True)) k_ ∧ some k_ ≠ (u3 : Value).ownBlock) (Kd.R_apart' (HO339.out) (Kd.S_typed HO_3.out) (by decide)) (fun k_ hk => ⟨trivial, hk.2⟩))).1 k_ h_.symm) (fun h_ => ((Kd.zbv (ok' := fun k_ => ((fun _ => True)) k_ ∧ some k_ ≠ (u3 : Value).ownBlock) (Kd.R_apart' (HO342.out) (Kd.S_typed HO_3.out) (by decide)) (fun k_ hk => ⟨trivial, hk.2⟩))).1 k_ h_.symm)) ?aF ?aO ?aB ?aS ?aL ?_; (case aP => exact k47_mkM _ _ _ (⟨t327, (⟨t328, t329, t330⟩ : S38), t331, t332, (⟨t333, t334, t335⟩ : S38), t336, t337, t340, t343, t344⟩ : S47) (Kd.zbv (Kd.R_tight rfl (Kd.zbv (ok' := fun k_ => ((fun _ => True)) k_ ∧ some k_ ≠ (u3 : Value).ownBlock) (Kd.R_apart' (HO339.out) (Kd.S_typed HO_3.out) (by decide)) (fun k_ hk => ⟨trivial, hk.2⟩))) (fun _ h_ => Or.inl h_)) (Kd.zbv (Kd.R_tight rfl (Kd.zbv (ok' := fun k_ => ((fun _ => True)) k_ ∧ some k_ ≠ (u3 : Value).ownBlock) (Kd.R_apart' (HO342.out) (Kd.S_typed HO_3.out) (by decide)) (fun k_ hk => ⟨trivial, hk.2⟩))) (fun _ h_ => Or.inr (h_)))); (case aB => exact (by repeat with_reducible first | exact HB.out | apply zac | apply zaa | apply zad)); (case aF => exact (fun _ _ => trivial)); (case aO => exact (by (with_reducible repeat (first | apply Kd.S_alloc | apply Kd.S_drewN | apply Kd.S_drew)); exact Kd.S_mono HO_3.out (fun k_ hk => ⟨trivial, fun e_ => e_.elim (fun h_ => hk.1.2 h_) (fun h_ => hk.2 h_)⟩))); (case aS => exact (zap (by repeat with_reducible first | exact HB.out | apply zac | apply zaa | apply zad))); (case aL => have := LMc5.out; omega); intro v346 w7 ho hb hg hat; rw [← Ny345.out] at ho; have n0_ := zab.mk (hb); have n1_ := zab.mk (ho); clear HB; clear HO_3; clear HO339; clear HO342; have HB := n0_; have HO347 := n1_; clear n0_ n1_; clear ho hb hg hat))
      go_roundg k1
      case measure => have := HK1.out; omega
      case rel => exact ⟨(y345), (wrap64 (x4_1 + 1)), (by first | rfl | (simp; done) | (simp [*]; done)), H', ⟨by have := HK1.out; omega⟩, ⟨by (with_reducible repeat (first | apply Kd.S_alloc | apply Kd.S_drewN | apply Kd.S_drew)); exact HO347.out⟩, ⟨by repeat with_reducible first | exact HB.out | apply zac | apply zaa | apply zad⟩⟩
     ·rw [if_neg c5] at H
      exact absurd H (by simp)
    ·rw [if_neg c3] at H
     exact absurd H (by simp)
   ·rw [if_neg c2] at H
    have c2b0 : decide (x4_1 < (l0.length : Int)) = false := decide_eq_false c2
    clear c2
    obtain rfl := Option.some.inj H
    go_wp2
    go_ret
    exact ⟨_, by first | rfl | (simp [zao, zan] <;> rfl) | (simp [*, zao, zan] <;> rfl), by (with_reducible repeat (first | apply Kd.S_alloc | apply Kd.S_drewN | apply Kd.S_drew)); exact HO_3.out, by repeat with_reducible first | exact HB.out | apply zac | apply zaa | apply zad⟩
end Go.Proofs.YtikmmigfdchcpaaDoor.PP
