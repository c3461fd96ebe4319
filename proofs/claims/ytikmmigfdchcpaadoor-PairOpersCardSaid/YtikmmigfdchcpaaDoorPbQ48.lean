/-
  Proved: a part of the proof of the claim's statement (text Q48 of it).
  Conditions: none of ours.
-/
import Derived.Test.YtikmmigfdchcpaaDoorPbQ0
import Derived.Test.YtikmmigfdchcpaaDoorPbQ47
namespace Go.Proofs.YtikmmigfdchcpaaDoor.PP
open Go.RowKit Go.Proofs.YtikmmigfdchcpaaDoorW.PrintWords Go.Proofs.YtikmmigfdchcpaaDoorW.PrintLast Go.Proofs.YtikmmigfdchcpaaDoorW.PrintMore
set_option linter.unusedVariables false
set_option linter.unusedSimpArgs false
def zbd.l0 : Nat → List (S47) → Int → Option (Int × Int)
 | 0, _, _ => none
 | k + 1, x0, x4 => if x4 < (x0.length : Int) then ((zar.f k x0 x4).bind fun t293 => (if t293 = 0 then (zbd.l0 k x0 (wrap64 (x4 + 1))) else (some (t293, wrap64 (x4 + 1))))) else (some (0, 0))
def zbd.f (k : Nat) (l0 : List (S47)) : Option (Int × Int) := zbd.l0 k l0 0
set_option maxHeartbeats 8000000 in
set_option maxRecDepth 100000 in
theorem zbd.calls (k : Nat) (A0 : Option Addr) (c0 : Nat) (l0 : List (S47)) (r1 : Int) (r2 : Int) (w : World) (hr0 : Kd.C k47 w A0 l0.length l0) (hc0 : l0.length ≤ c0) (h : zbd.f k l0 = some (r1, r2)) :
  Calls Tryd.prog 11 #[.slice A0 l0.length c0] w fun e w' => e = .returned (.tuple #[.int .i64 r1, .int .i64 r2]) ∧ Below w.heap.size w w' := by
 have HR0 := zae.mk hr0
 have HC0 := zae.mk hc0
 clear hr0 hc0
 have HB := zae.mk (Below.refl w.heap.size w)
 have H : (zbd.l0 k l0 0) = some (r1, r2) := h
 clear h
 have H' := zae.mk H
 clear H
 go_enter Tryd.func11, Tryd.ntmps11
 go_wp2
 go_loopg [4] k (fun kq v4 w' => ∃ (x4_1 : Int), v4 = .int .i64 x4_1 ∧ zae (zbd.l0 kq l0 x4_1 = some (r1, r2)) ∧ zae (kq ≤ k) ∧ zae (Below w.heap.size w w'))
 case atStart => exact ⟨(0), (by first | rfl | (simp; done) | (simp [*]; done)), H', ⟨Nat.le_refl _⟩, ⟨by repeat with_reducible first | exact HB.out | apply zad | apply zaa | apply zac⟩⟩
 case round =>
  clear H'
  try clear c1
  obtain ⟨x4_1, rfl, HA, HK1, HB⟩ := hrel
  cases gk with
  | zero => exact absurd HA.out (by simp [zbd.l0])
  | succ k1 =>
   have H := HA.out
   clear HA
   simp only [zbd.l0] at H
   by_cases c2 : x4_1 < (l0.length : Int)
   ·rw [if_pos c2] at H
    have c2b0 : decide (x4_1 < (l0.length : Int)) = true := decide_eq_true c2
    clear c2
    replace H := Option.bind_eq_some_iff.mp H
    obtain ⟨t293, A30, H⟩ := H
    replace H : (if t293 = 0 then (zbd.l0 k1 l0 (wrap64 (x4_1 + 1))) else (some (t293, wrap64 (x4_1 + 1)))) = some (r1, r2) := H
    have A3 := zae.mk A30
    clear A30
    by_cases c4 : t293 = 0
    ·rw [if_pos c4] at H
     have c4b0 : (t293 == 0) = true := beq_iff_eq.mpr c4
     have c4b1 : (t293 != 0) = false := bne_eq_false_iff_eq.mpr c4
     clear c4
     have H' := zae.mk H
     clear H
     go_wp2_with (first | ((with_reducible refine za3 (f := 21) rfl ?_); refine zbv (some 14) rfl rfl Tryd.func21 (by kernel_rfl) rfl #[.slice A0 l0.length c0, .int .i64 x4_1] rfl (by (try simp only [List.map_toArray, List.map_cons, List.map_nil]); first | done | rfl | (simp only [List.length_drop, List.length_take]; rfl)) ?_; (with_reducible refine (zar.calls k1 _ _ l0 x4_1 t293 _ ?side1 ?side2 A3.out).mono ?_); (case side1 => repeat (first | exact (Kd.zbk HR0.out HB.out) | (with_reducible refine Kd.zbx ?_ _) | (with_reducible refine Kd.C_drewN ?_ _) | (with_reducible refine Kd.C_drew ?_))); (case side2 => exact HC0.out); rintro e w5 ⟨rfl, hb⟩; refine ⟨_, rfl, ?_⟩; have n0_ := zae.mk (zaq (by repeat with_reducible first | exact HB.out | apply zad | apply zaa | apply zac) hb); clear HB; have HB := n0_; clear n0_; (try clear hb); (try clear hb2); (try clear hk); (try clear hi)))
     go_roundg k1
     case measure => have := HK1.out; omega
     case rel => exact ⟨(wrap64 (x4_1 + 1)), (by first | rfl | (simp; done) | (simp [*]; done)), H', ⟨by have := HK1.out; omega⟩, ⟨by repeat with_reducible first | exact HB.out | apply zad | apply zaa | apply zac⟩⟩
    ·rw [if_neg c4] at H
     have c4b0 : (t293 == 0) = false := beq_eq_false_iff_ne.mpr c4
     have c4b1 : (t293 != 0) = true := bne_iff_ne.mpr c4
     simp only [Option.some.injEq, Prod.mk.injEq] at H
     obtain ⟨rfl, rfl⟩ := H
     go_wp2_with (first | ((with_reducible refine za3 (f := 21) rfl ?_); refine zbv (some 14) rfl rfl Tryd.func21 (by kernel_rfl) rfl #[.slice A0 l0.length c0, .int .i64 x4_1] rfl (by (try simp only [List.map_toArray, List.map_cons, List.map_nil]); first | done | rfl | (simp only [List.length_drop, List.length_take]; rfl)) ?_; (with_reducible refine (zar.calls k1 _ _ l0 x4_1 t293 _ ?side1 ?side2 A3.out).mono ?_); (case side1 => repeat (first | exact (Kd.zbk HR0.out HB.out) | (with_reducible refine Kd.zbx ?_ _) | (with_reducible refine Kd.C_drewN ?_ _) | (with_reducible refine Kd.C_drew ?_))); (case side2 => exact HC0.out); rintro e w6 ⟨rfl, hb⟩; refine ⟨_, rfl, ?_⟩; have n0_ := zae.mk (zaq (by repeat with_reducible first | exact HB.out | apply zad | apply zaa | apply zac) hb); clear HB; have HB := n0_; clear n0_; (try clear hb); (try clear hb2); (try clear hk); (try clear hi)))
     go_ret2
     exact ⟨by first | rfl | (simp [zam, zal] <;> rfl) | (simp [*, zam, zal] <;> rfl), by repeat with_reducible first | exact HB.out | apply zad | apply zaa | apply zac⟩
   ·rw [if_neg c2] at H
    have c2b0 : decide (x4_1 < (l0.length : Int)) = false := decide_eq_false c2
    clear c2
    simp only [Option.some.injEq, Prod.mk.injEq] at H
    obtain ⟨rfl, rfl⟩ := H
    go_wp2
    go_ret2
    exact ⟨by first | rfl | (simp [zam, zal] <;> rfl) | (simp [*, zam, zal] <;> rfl), by repeat with_reducible first | exact HB.out | apply zad | apply zaa | apply zac⟩
end Go.Proofs.YtikmmigfdchcpaaDoor.PP
