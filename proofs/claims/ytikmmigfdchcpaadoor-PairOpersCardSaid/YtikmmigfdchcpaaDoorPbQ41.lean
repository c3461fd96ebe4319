import Derived.Test.YtikmmigfdchcpaaDoorPbQ0
import Derived.Test.YtikmmigfdchcpaaDoorPbQ901
import Derived.Test.YtikmmigfdchcpaaDoorPbQ40
/-
  Proved: a part of the proof of the claim's statement (text Q41 of it).
  Conditions: none of ours.
-/
namespace Go.Proofs.YtikmmigfdchcpaaDoor.PP
open Go.RowKit Go.Proofs.YtikmmigfdchcpaaDoorW.PrintWords Go.Proofs.YtikmmigfdchcpaaDoorW.PrintLast Go.Proofs.YtikmmigfdchcpaaDoorW.PrintMore
set_option linter.unusedVariables false
set_option linter.unusedSimpArgs false
/-! ### zan: function 38 -/
mutual
def zan.j0 : Nat → ByteArray → Bool → Option (List Int × Int × Bool × Bool)
 | 0, _, _ => none
 | k + 1, x10, x11 => if x11 = true then (some ((([2] : List Int)), (-1), false, true)) else (if x10.toList = ([114, 101, 103, 32, 114, 101, 97, 100] : List UInt8) then (zan.j1 k x10 (x10.toList == ([114, 101, 103, 32, 114, 101, 97, 100] : List UInt8))) else (if x10.toList = ([99, 97, 115, 32, 114, 101, 97, 100] : List UInt8) then (zan.j1 k x10 (x10.toList == ([99, 97, 115, 32, 114, 101, 97, 100] : List UInt8))) else (if x10.toList = ([102, 105, 102, 111, 32, 112, 111, 112] : List UInt8) then (zan.j1 k x10 (x10.toList == ([102, 105, 102, 111, 32, 112, 111, 112] : List UInt8))) else (zan.j1 k x10 (x10.toList == ([115, 116, 97, 99, 107, 32, 112, 111, 112] : List UInt8))))))
def zan.j1 : Nat → ByteArray → Bool → Option (List Int × Int × Bool × Bool)
 | 0, _, _ => none
 | k + 1, x10, x20 => if x20 = true then (some (([] : List Int), 2, true, true)) else (if x10.toList = ([99, 97, 115, 32, 115, 119, 97, 112] : List UInt8) then (some ((([2, 2] : List Int)), 6, false, true)) else (if x10.toList = ([115, 101, 116, 32, 104, 97, 115] : List UInt8) then (some ((([2] : List Int)), 6, false, true)) else (if x10.toList = ([109, 97, 112, 32, 112, 117, 116] : List UInt8) then (some ((([3, 2] : List Int)), (-1), false, true)) else (if x10.toList = ([109, 97, 112, 32, 103, 101, 116] : List UInt8) then (some ((([3] : List Int)), 2, true, true)) else (if x10.toList = ([109, 97, 112, 32, 100, 101, 108] : List UInt8) then (some ((([3] : List Int)), (-1), false, true)) else (if x10.toList = ([108, 111, 99, 107, 32, 116, 97, 107, 101] : List UInt8) then (zan.j2 k x10 (x10.toList == ([108, 111, 99, 107, 32, 116, 97, 107, 101] : List UInt8))) else (zan.j2 k x10 (x10.toList == ([108, 111, 99, 107, 32, 102, 114, 101, 101] : List UInt8)))))))))
def zan.j2 : Nat → ByteArray → Bool → Option (List Int × Int × Bool × Bool)
 | 0, _, _ => none
 | k + 1, x10, x46 => if x46 = true then (some (([] : List Int), 6, false, true)) else (if x10.toList = ([99, 111, 117, 110, 116, 32, 97, 100, 100] : List UInt8) then (some ((([5] : List Int)), (-1), false, true)) else (if x10.toList = ([99, 111, 117, 110, 116, 32, 114, 101, 97, 100] : List UInt8) then (some (([] : List Int), 5, false, true)) else (if x10.toList = ([109, 97, 120, 32, 119, 114, 105, 116, 101] : List UInt8) then (zan.j3 k x10 (x10.toList == ([109, 97, 120, 32, 119, 114, 105, 116, 101] : List UInt8))) else (zan.j3 k x10 (x10.toList == ([111, 109, 97, 112, 32, 100, 101, 108] : List UInt8))))))
def zan.j3 : Nat → ByteArray → Bool → Option (List Int × Int × Bool × Bool)
 | 0, _, _ => none
 | k + 1, x10, x57 => if x57 = true then (some ((([4] : List Int)), (-1), false, true)) else (if x10.toList = ([109, 97, 120, 32, 114, 101, 97, 100] : List UInt8) then (some (([] : List Int), 4, true, true)) else (if x10.toList = ([111, 109, 97, 112, 32, 112, 117, 116] : List UInt8) then (some ((([4, 2] : List Int)), (-1), false, true)) else (if x10.toList = ([111, 109, 97, 112, 32, 115, 99, 97, 110] : List UInt8) then (some ((([4, 4] : List Int)), 99, false, true)) else (some (([] : List Int), 0, false, false)))))
end
def zan.f (k : Nat) (a0 : Int) (a1 : Int) : Option (List Int × Int × Bool × Bool) := (zbz.f a0).bind fun t201 => (if t201.size + 1 ≤ 9223372036854775807 then ((zb3.f a1).bind fun t202 => (if (t201 ++ (⟨#[32]⟩ : ByteArray)).size + t202.size ≤ 9223372036854775807 then (if ((t201 ++ (⟨#[32]⟩ : ByteArray)) ++ t202).toList = ([114, 101, 103, 32, 119, 114, 105, 116, 101] : List UInt8) then (zan.j0 k ((t201 ++ (⟨#[32]⟩ : ByteArray)) ++ t202) (((t201 ++ (⟨#[32]⟩ : ByteArray)) ++ t202).toList == ([114, 101, 103, 32, 119, 114, 105, 116, 101] : List UInt8))) else (if ((t201 ++ (⟨#[32]⟩ : ByteArray)) ++ t202).toList = ([99, 97, 115, 32, 119, 114, 105, 116, 101] : List UInt8) then (zan.j0 k ((t201 ++ (⟨#[32]⟩ : ByteArray)) ++ t202) (((t201 ++ (⟨#[32]⟩ : ByteArray)) ++ t202).toList == ([99, 97, 115, 32, 119, 114, 105, 116, 101] : List UInt8))) else (if ((t201 ++ (⟨#[32]⟩ : ByteArray)) ++ t202).toList = ([115, 101, 116, 32, 97, 100, 100] : List UInt8) then (zan.j0 k ((t201 ++ (⟨#[32]⟩ : ByteArray)) ++ t202) (((t201 ++ (⟨#[32]⟩ : ByteArray)) ++ t202).toList == ([115, 101, 116, 32, 97, 100, 100] : List UInt8))) else (if ((t201 ++ (⟨#[32]⟩ : ByteArray)) ++ t202).toList = ([115, 101, 116, 32, 100, 101, 108] : List UInt8) then (zan.j0 k ((t201 ++ (⟨#[32]⟩ : ByteArray)) ++ t202) (((t201 ++ (⟨#[32]⟩ : ByteArray)) ++ t202).toList == ([115, 101, 116, 32, 100, 101, 108] : List UInt8))) else (if ((t201 ++ (⟨#[32]⟩ : ByteArray)) ++ t202).toList = ([102, 105, 102, 111, 32, 112, 117, 115, 104] : List UInt8) then (zan.j0 k ((t201 ++ (⟨#[32]⟩ : ByteArray)) ++ t202) (((t201 ++ (⟨#[32]⟩ : ByteArray)) ++ t202).toList == ([102, 105, 102, 111, 32, 112, 117, 115, 104] : List UInt8))) else (zan.j0 k ((t201 ++ (⟨#[32]⟩ : ByteArray)) ++ t202) (((t201 ++ (⟨#[32]⟩ : ByteArray)) ++ t202).toList == ([115, 116, 97, 99, 107, 32, 112, 117, 115, 104] : List UInt8)))))))) else (none))) else (none))
theorem zan.mono_l : ∀ k, (∀ y0 y1, LeO (zan.j0 k y0 y1) (zan.j0 (k + 1) y0 y1)) ∧ (∀ y0 y1, LeO (zan.j1 k y0 y1) (zan.j1 (k + 1) y0 y1)) ∧ (∀ y0 y1, LeO (zan.j2 k y0 y1) (zan.j2 (k + 1) y0 y1)) ∧ (∀ y0 y1, LeO (zan.j3 k y0 y1) (zan.j3 (k + 1) y0 y1))
 | 0 => ⟨fun _ _ r h => by simp [zan.j0] at h, fun _ _ r h => by simp [zan.j1] at h, fun _ _ r h => by simp [zan.j2] at h, fun _ _ r h => by simp [zan.j3] at h⟩
 | k + 1 => by
  obtain ⟨ih0, ih1, ih2, ih3⟩ := zan.mono_l k
  refine ⟨?_, ?_, ?_, ?_⟩
  ·intro y0 y1
   unfold zan.j0
   repeat' first
   | (with_reducible exact ih0 _ _)
   | (with_reducible exact ih1 _ _)
   | (with_reducible exact ih2 _ _)
   | (with_reducible exact ih3 _ _)
   | (with_reducible exact LeO.refl _)
   | (with_reducible exact LeO.none _)
   | (with_reducible refine LeO.ite ?_ ?_)
   | (with_reducible refine LeO.bind ?_ (fun _ => ?_))
   | exact ih0 _ _
   | exact ih1 _ _
   | exact ih2 _ _
   | exact ih3 _ _
   | exact LeO.none _
   | refine LeO.ite ?_ ?_
   | refine LeO.bind ?_ (fun _ => ?_)
  ·intro y0 y1
   unfold zan.j1
   repeat' first
   | (with_reducible exact ih0 _ _)
   | (with_reducible exact ih1 _ _)
   | (with_reducible exact ih2 _ _)
   | (with_reducible exact ih3 _ _)
   | (with_reducible exact LeO.refl _)
   | (with_reducible exact LeO.none _)
   | (with_reducible refine LeO.ite ?_ ?_)
   | (with_reducible refine LeO.bind ?_ (fun _ => ?_))
   | exact ih0 _ _
   | exact ih1 _ _
   | exact ih2 _ _
   | exact ih3 _ _
   | exact LeO.none _
   | refine LeO.ite ?_ ?_
   | refine LeO.bind ?_ (fun _ => ?_)
  ·intro y0 y1
   unfold zan.j2
   repeat' first
   | (with_reducible exact ih0 _ _)
   | (with_reducible exact ih1 _ _)
   | (with_reducible exact ih2 _ _)
   | (with_reducible exact ih3 _ _)
   | (with_reducible exact LeO.refl _)
   | (with_reducible exact LeO.none _)
   | (with_reducible refine LeO.ite ?_ ?_)
   | (with_reducible refine LeO.bind ?_ (fun _ => ?_))
   | exact ih0 _ _
   | exact ih1 _ _
   | exact ih2 _ _
   | exact ih3 _ _
   | exact LeO.none _
   | refine LeO.ite ?_ ?_
   | refine LeO.bind ?_ (fun _ => ?_)
  ·intro y0 y1
   unfold zan.j3
   repeat' first
   | (with_reducible exact ih0 _ _)
   | (with_reducible exact ih1 _ _)
   | (with_reducible exact ih2 _ _)
   | (with_reducible exact ih3 _ _)
   | (with_reducible exact LeO.refl _)
   | (with_reducible exact LeO.none _)
   | (with_reducible refine LeO.ite ?_ ?_)
   | (with_reducible refine LeO.bind ?_ (fun _ => ?_))
   | exact ih0 _ _
   | exact ih1 _ _
   | exact ih2 _ _
   | exact ih3 _ _
   | exact LeO.none _
   | refine LeO.ite ?_ ?_
   | refine LeO.bind ?_ (fun _ => ?_)
theorem zan.mono : ∀ a0 a1 k, LeO (zan.f k a0 a1) (zan.f (k + 1) a0 a1) := by
 intro a0 a1 k
 obtain ⟨ih0, ih1, ih2, ih3⟩ := zan.mono_l k
 unfold zan.f
 repeat' first
   | (with_reducible exact ih0 _ _)
   | (with_reducible exact ih1 _ _)
   | (with_reducible exact ih2 _ _)
   | (with_reducible exact ih3 _ _)
   | (with_reducible exact LeO.refl _)
   | (with_reducible exact LeO.none _)
   | (with_reducible refine LeO.ite ?_ ?_)
   | (with_reducible refine LeO.bind ?_ (fun _ => ?_))
   | exact ih0 _ _
   | exact ih1 _ _
   | exact ih2 _ _
   | exact ih3 _ _
   | exact LeO.none _
   | refine LeO.ite ?_ ?_
   | refine LeO.bind ?_ (fun _ => ?_)
set_option maxHeartbeats 8000000 in
set_option maxRecDepth 100000 in
theorem zan.calls (k : Nat) (a0 : Int) (a1 : Int) (r1 : List Int) (r2 : Int) (r3 : Bool) (r4 : Bool) (w : World) (h : zan.f k a0 a1 = some (r1, r2, r3, r4)) :
  Calls Tryd.prog 38 #[.int .i64 a0, .int .i64 a1] w fun e w' => ∃ v0_ : Value, e = .returned (.agg #[v0_, .int .i64 r2, .bool r3, .bool r4]) ∧ Kd.R (Kd.int .i64) 3 w' w.heap.size (fun _ => True) v0_ r1 ∧ Below w.heap.size w w' := by
 have hu72 := Tryd.underlying72
 have HB := zae.mk (Below.refl w.heap.size w)
 have H : ((zbz.f a0).bind fun t201 => (if t201.size + 1 ≤ 9223372036854775807 then ((zb3.f a1).bind fun t202 => (if (t201 ++ (⟨#[32]⟩ : ByteArray)).size + t202.size ≤ 9223372036854775807 then (if ((t201 ++ (⟨#[32]⟩ : ByteArray)) ++ t202).toList = ([114, 101, 103, 32, 119, 114, 105, 116, 101] : List UInt8) then (zan.j0 k ((t201 ++ (⟨#[32]⟩ : ByteArray)) ++ t202) (((t201 ++ (⟨#[32]⟩ : ByteArray)) ++ t202).toList == ([114, 101, 103, 32, 119, 114, 105, 116, 101] : List UInt8))) else (if ((t201 ++ (⟨#[32]⟩ : ByteArray)) ++ t202).toList = ([99, 97, 115, 32, 119, 114, 105, 116, 101] : List UInt8) then (zan.j0 k ((t201 ++ (⟨#[32]⟩ : ByteArray)) ++ t202) (((t201 ++ (⟨#[32]⟩ : ByteArray)) ++ t202).toList == ([99, 97, 115, 32, 119, 114, 105, 116, 101] : List UInt8))) else (if ((t201 ++ (⟨#[32]⟩ : ByteArray)) ++ t202).toList = ([115, 101, 116, 32, 97, 100, 100] : List UInt8) then (zan.j0 k ((t201 ++ (⟨#[32]⟩ : ByteArray)) ++ t202) (((t201 ++ (⟨#[32]⟩ : ByteArray)) ++ t202).toList == ([115, 101, 116, 32, 97, 100, 100] : List UInt8))) else (if ((t201 ++ (⟨#[32]⟩ : ByteArray)) ++ t202).toList = ([115, 101, 116, 32, 100, 101, 108] : List UInt8) then (zan.j0 k ((t201 ++ (⟨#[32]⟩ : ByteArray)) ++ t202) (((t201 ++ (⟨#[32]⟩ : ByteArray)) ++ t202).toList == ([115, 101, 116, 32, 100, 101, 108] : List UInt8))) else (if ((t201 ++ (⟨#[32]⟩ : ByteArray)) ++ t202).toList = ([102, 105, 102, 111, 32, 112, 117, 115, 104] : List UInt8) then (zan.j0 k ((t201 ++ (⟨#[32]⟩ : ByteArray)) ++ t202) (((t201 ++ (⟨#[32]⟩ : ByteArray)) ++ t202).toList == ([102, 105, 102, 111, 32, 112, 117, 115, 104] : List UInt8))) else (zan.j0 k ((t201 ++ (⟨#[32]⟩ : ByteArray)) ++ t202) (((t201 ++ (⟨#[32]⟩ : ByteArray)) ++ t202).toList == ([115, 116, 97, 99, 107, 32, 112, 117, 115, 104] : List UInt8)))))))) else (none))) else (none))) = some (r1, r2, r3, r4) := h
 clear h
 replace H := Option.bind_eq_some_iff.mp H
 obtain ⟨t201, A30, H⟩ := H
 replace H : (if t201.size + 1 ≤ 9223372036854775807 then ((zb3.f a1).bind fun t202 => (if (t201 ++ (⟨#[32]⟩ : ByteArray)).size + t202.size ≤ 9223372036854775807 then (if ((t201 ++ (⟨#[32]⟩ : ByteArray)) ++ t202).toList = ([114, 101, 103, 32, 119, 114, 105, 116, 101] : List UInt8) then (zan.j0 k ((t201 ++ (⟨#[32]⟩ : ByteArray)) ++ t202) (((t201 ++ (⟨#[32]⟩ : ByteArray)) ++ t202).toList == ([114, 101, 103, 32, 119, 114, 105, 116, 101] : List UInt8))) else (if ((t201 ++ (⟨#[32]⟩ : ByteArray)) ++ t202).toList = ([99, 97, 115, 32, 119, 114, 105, 116, 101] : List UInt8) then (zan.j0 k ((t201 ++ (⟨#[32]⟩ : ByteArray)) ++ t202) (((t201 ++ (⟨#[32]⟩ : ByteArray)) ++ t202).toList == ([99, 97, 115, 32, 119, 114, 105, 116, 101] : List UInt8))) else (if ((t201 ++ (⟨#[32]⟩ : ByteArray)) ++ t202).toList = ([115, 101, 116, 32, 97, 100, 100] : List UInt8) then (zan.j0 k ((t201 ++ (⟨#[32]⟩ : ByteArray)) ++ t202) (((t201 ++ (⟨#[32]⟩ : ByteArray)) ++ t202).toList == ([115, 101, 116, 32, 97, 100, 100] : List UInt8))) else (if ((t201 ++ (⟨#[32]⟩ : ByteArray)) ++ t202).toList = ([115, 101, 116, 32, 100, 101, 108] : List UInt8) then (zan.j0 k ((t201 ++ (⟨#[32]⟩ : ByteArray)) ++ t202) (((t201 ++ (⟨#[32]⟩ : ByteArray)) ++ t202).toList == ([115, 101, 116, 32, 100, 101, 108] : List UInt8))) else (if ((t201 ++ (⟨#[32]⟩ : ByteArray)) ++ t202).toList = ([102, 105, 102, 111, 32, 112, 117, 115, 104] : List UInt8) then (zan.j0 k ((t201 ++ (⟨#[32]⟩ : ByteArray)) ++ t202) (((t201 ++ (⟨#[32]⟩ : ByteArray)) ++ t202).toList == ([102, 105, 102, 111, 32, 112, 117, 115, 104] : List UInt8))) else (zan.j0 k ((t201 ++ (⟨#[32]⟩ : ByteArray)) ++ t202) (((t201 ++ (⟨#[32]⟩ : ByteArray)) ++ t202).toList == ([115, 116, 97, 99, 107, 32, 112, 117, 115, 104] : List UInt8)))))))) else (none))) else (none)) = some (r1, r2, r3, r4) := H
 have A3 := zae.mk A30
 clear A30
 by_cases c4 : t201.size + 1 ≤ 9223372036854775807
 ·rw [if_pos c4] at H
  have c4b0 := eq_true c4
  have c4b1 : decide (t201.size + 1 ≤ 9223372036854775807) = true := decide_eq_true c4
  try have c4b2 : (9223372036854775807 < t201.size + 1) = False := eq_false (Nat.not_lt.2 c4)
  replace H := Option.bind_eq_some_iff.mp H
  obtain ⟨t202, A50, H⟩ := H
  replace H : (if (t201 ++ (⟨#[32]⟩ : ByteArray)).size + t202.size ≤ 9223372036854775807 then (if ((t201 ++ (⟨#[32]⟩ : ByteArray)) ++ t202).toList = ([114, 101, 103, 32, 119, 114, 105, 116, 101] : List UInt8) then (zan.j0 k ((t201 ++ (⟨#[32]⟩ : ByteArray)) ++ t202) (((t201 ++ (⟨#[32]⟩ : ByteArray)) ++ t202).toList == ([114, 101, 103, 32, 119, 114, 105, 116, 101] : List UInt8))) else (if ((t201 ++ (⟨#[32]⟩ : ByteArray)) ++ t202).toList = ([99, 97, 115, 32, 119, 114, 105, 116, 101] : List UInt8) then (zan.j0 k ((t201 ++ (⟨#[32]⟩ : ByteArray)) ++ t202) (((t201 ++ (⟨#[32]⟩ : ByteArray)) ++ t202).toList == ([99, 97, 115, 32, 119, 114, 105, 116, 101] : List UInt8))) else (if ((t201 ++ (⟨#[32]⟩ : ByteArray)) ++ t202).toList = ([115, 101, 116, 32, 97, 100, 100] : List UInt8) then (zan.j0 k ((t201 ++ (⟨#[32]⟩ : ByteArray)) ++ t202) (((t201 ++ (⟨#[32]⟩ : ByteArray)) ++ t202).toList == ([115, 101, 116, 32, 97, 100, 100] : List UInt8))) else (if ((t201 ++ (⟨#[32]⟩ : ByteArray)) ++ t202).toList = ([115, 101, 116, 32, 100, 101, 108] : List UInt8) then (zan.j0 k ((t201 ++ (⟨#[32]⟩ : ByteArray)) ++ t202) (((t201 ++ (⟨#[32]⟩ : ByteArray)) ++ t202).toList == ([115, 101, 116, 32, 100, 101, 108] : List UInt8))) else (if ((t201 ++ (⟨#[32]⟩ : ByteArray)) ++ t202).toList = ([102, 105, 102, 111, 32, 112, 117, 115, 104] : List UInt8) then (zan.j0 k ((t201 ++ (⟨#[32]⟩ : ByteArray)) ++ t202) (((t201 ++ (⟨#[32]⟩ : ByteArray)) ++ t202).toList == ([102, 105, 102, 111, 32, 112, 117, 115, 104] : List UInt8))) else (zan.j0 k ((t201 ++ (⟨#[32]⟩ : ByteArray)) ++ t202) (((t201 ++ (⟨#[32]⟩ : ByteArray)) ++ t202).toList == ([115, 116, 97, 99, 107, 32, 112, 117, 115, 104] : List UInt8)))))))) else (none)) = some (r1, r2, r3, r4) := H
  have A5 := zae.mk A50
  clear A50
  by_cases c6 : (t201 ++ (⟨#[32]⟩ : ByteArray)).size + t202.size ≤ 9223372036854775807
  ·rw [if_pos c6] at H
   have c6b0 := eq_true c6
   have c6b1 : decide ((t201 ++ (⟨#[32]⟩ : ByteArray)).size + t202.size ≤ 9223372036854775807) = true := decide_eq_true c6
   try have c6b2 : (9223372036854775807 < (t201 ++ (⟨#[32]⟩ : ByteArray)).size + t202.size) = False := eq_false (Nat.not_lt.2 c6)
   have c6b3 : (9223372036854775807 < t201.size + 1 + t202.size) = False := by
    have hs : (t201 ++ (⟨#[32]⟩ : ByteArray)).size = t201.size + 1 := by rw [ByteArray.size_append]; rfl
    rw [hs] at c6
    exact eq_false (Nat.not_lt.2 c6)
   have HC7 := zae.mk H
   clear H
   go_enter Tryd.func38, Tryd.ntmps38
   go_upto_if 11 with (first | ((with_reducible refine za8 (N := 4) rfl ?_); refine za7 ?hg (N := 4) ?hd (cs := #[.slice none 0 0, .int .i64 0, .bool false, .bool false]) (t := 72) ?hr ?_; (case hd => rfl); (case hg => rfl); (case hr => first | (go_simp; done) | (go_simp; rfl)); intro gb200 hg w8 hbox hb; have n0_ := zae.mk (zaq (by repeat with_reducible first | exact HB.out | apply zad | apply zaa | apply zac) hb); have n1_ := zae.mk (hbox); have n2_ := zae.mk ((by rw [hg]; exact (zav (by repeat with_reducible first | exact HB.out | apply zad | apply zaa | apply zac)) : w.heap.size ≤ gb200)); have n3_ := n2_; clear HB; have HB := n0_; have BK200 := n1_; have GW200 := n2_; have GE200 := n3_; clear n0_ n1_ n2_ n3_; clear hb hbox hg) | ((with_reducible refine za3 (f := 48) rfl ?_); refine zbv (some 6) rfl rfl Tryd.func48 (by kernel_rfl) rfl #[.int .i64 a0] rfl (by (try simp only [List.map_toArray, List.map_cons, List.map_nil]); first | done | rfl | (simp only [List.length_drop, List.length_take]; rfl)) ?_; (with_reducible refine (zbz.calls a0 t201 _ A3.out).mono ?_); rintro e w' ⟨rfl, ⟨nd, rfl⟩⟩; refine ⟨_, rfl, ?_⟩) | ((with_reducible refine za3 (f := 49) rfl ?_); refine zbv (some 9) rfl rfl Tryd.func49 (by kernel_rfl) rfl #[.int .i64 a1] rfl (by (try simp only [List.map_toArray, List.map_cons, List.map_nil]); first | done | rfl | (simp only [List.length_drop, List.length_take]; rfl)) ?_; (with_reducible refine (zb3.calls a1 t202 _ A5.out).mono ?_); rintro e w' ⟨rfl, ⟨nd, rfl⟩⟩; refine ⟨_, rfl, ?_⟩))
   (try simp only [Act.put, List.setIfInBounds_toArray, List.set_cons_zero, List.set_cons_succ])
   go_cut [11] (fun v11 wc => ∃ (kq : Nat) (x11_6 : Bool), v11 = .bool x11_6 ∧ zae (zan.j0 kq ((t201 ++ (⟨#[32]⟩ : ByteArray)) ++ t202) x11_6 = some (r1, r2, r3, r4)) ∧ zae (kq ≤ k) ∧ zae (wc.heap[gb200]? = some (.cells #[(.slice none 0 0), .int .i64 0, .bool false, .bool false] 72 (0, 0))) ∧ zae (Below w.heap.size w wc))
   case first =>
    have H := HC7.out
    clear HC7
    by_cases c9 : ((t201 ++ (⟨#[32]⟩ : ByteArray)) ++ t202).toList = ([114, 101, 103, 32, 119, 114, 105, 116, 101] : List UInt8)
    ·rw [if_pos c9] at H
     have c9b0 : (((t201 ++ (⟨#[32]⟩ : ByteArray)) ++ t202).toList == ([114, 101, 103, 32, 119, 114, 105, 116, 101] : List UInt8)) = true := beq_iff_eq.mpr c9
     have c9b1 : (((t201 ++ (⟨#[32]⟩ : ByteArray)) ++ t202).toList != ([114, 101, 103, 32, 119, 114, 105, 116, 101] : List UInt8)) = false := bne_eq_false_iff_eq.mpr c9
     clear c9
     (first | rw [c9b0] | (simp only [i64_w]; rw [c9b0]) | skip)
     have H' := zae.mk H
     clear H
     go_wp2
     go_meet
     case rel => exact ⟨_, ((((t201 ++ (⟨#[32]⟩ : ByteArray)) ++ t202).toList == ([114, 101, 103, 32, 119, 114, 105, 116, 101] : List UInt8))), (by first | rfl | (simp; done) | (simp [*]; done)), H', ⟨by first | omega | exact Nat.le_refl _⟩, ⟨by (with_reducible repeat (first | refine zai ?_ _ | refine zak ?_ | refine zaj ?_ _)); exact BK200.out⟩, ⟨by repeat with_reducible first | exact HB.out | apply zad | apply zaa | apply zac | refine zag ?_ GE200.out⟩⟩
    ·rw [if_neg c9] at H
     have c9b0 : (((t201 ++ (⟨#[32]⟩ : ByteArray)) ++ t202).toList == ([114, 101, 103, 32, 119, 114, 105, 116, 101] : List UInt8)) = false := beq_eq_false_iff_ne.mpr c9
     have c9b1 : (((t201 ++ (⟨#[32]⟩ : ByteArray)) ++ t202).toList != ([114, 101, 103, 32, 119, 114, 105, 116, 101] : List UInt8)) = true := bne_iff_ne.mpr c9
     (first | rw [c9b0] | (simp only [i64_w]; rw [c9b0]) | skip)
     by_cases c10 : ((t201 ++ (⟨#[32]⟩ : ByteArray)) ++ t202).toList = ([99, 97, 115, 32, 119, 114, 105, 116, 101] : List UInt8)
     ·rw [if_pos c10] at H
      have c10b0 : (((t201 ++ (⟨#[32]⟩ : ByteArray)) ++ t202).toList == ([99, 97, 115, 32, 119, 114, 105, 116, 101] : List UInt8)) = true := beq_iff_eq.mpr c10
      have c10b1 : (((t201 ++ (⟨#[32]⟩ : ByteArray)) ++ t202).toList != ([99, 97, 115, 32, 119, 114, 105, 116, 101] : List UInt8)) = false := bne_eq_false_iff_eq.mpr c10
      clear c10
      have H' := zae.mk H
      clear H
      go_wp2
      go_meet
      case rel => exact ⟨_, ((((t201 ++ (⟨#[32]⟩ : ByteArray)) ++ t202).toList == ([99, 97, 115, 32, 119, 114, 105, 116, 101] : List UInt8))), (by first | rfl | (simp; done) | (simp [*]; done)), H', ⟨by first | omega | exact Nat.le_refl _⟩, ⟨by (with_reducible repeat (first | refine zai ?_ _ | refine zak ?_ | refine zaj ?_ _)); exact BK200.out⟩, ⟨by repeat with_reducible first | exact HB.out | apply zad | apply zaa | apply zac | refine zag ?_ GE200.out⟩⟩
     ·rw [if_neg c10] at H
      have c10b0 : (((t201 ++ (⟨#[32]⟩ : ByteArray)) ++ t202).toList == ([99, 97, 115, 32, 119, 114, 105, 116, 101] : List UInt8)) = false := beq_eq_false_iff_ne.mpr c10
      have c10b1 : (((t201 ++ (⟨#[32]⟩ : ByteArray)) ++ t202).toList != ([99, 97, 115, 32, 119, 114, 105, 116, 101] : List UInt8)) = true := bne_iff_ne.mpr c10
      by_cases c11 : ((t201 ++ (⟨#[32]⟩ : ByteArray)) ++ t202).toList = ([115, 101, 116, 32, 97, 100, 100] : List UInt8)
      ·rw [if_pos c11] at H
       have c11b0 : (((t201 ++ (⟨#[32]⟩ : ByteArray)) ++ t202).toList == ([115, 101, 116, 32, 97, 100, 100] : List UInt8)) = true := beq_iff_eq.mpr c11
       have c11b1 : (((t201 ++ (⟨#[32]⟩ : ByteArray)) ++ t202).toList != ([115, 101, 116, 32, 97, 100, 100] : List UInt8)) = false := bne_eq_false_iff_eq.mpr c11
       clear c11
       have H' := zae.mk H
       clear H
       go_wp2
       go_meet
       case rel => exact ⟨_, ((((t201 ++ (⟨#[32]⟩ : ByteArray)) ++ t202).toList == ([115, 101, 116, 32, 97, 100, 100] : List UInt8))), (by first | rfl | (simp; done) | (simp [*]; done)), H', ⟨by first | omega | exact Nat.le_refl _⟩, ⟨by (with_reducible repeat (first | refine zai ?_ _ | refine zak ?_ | refine zaj ?_ _)); exact BK200.out⟩, ⟨by repeat with_reducible first | exact HB.out | apply zad | apply zaa | apply zac | refine zag ?_ GE200.out⟩⟩
      ·rw [if_neg c11] at H
       have c11b0 : (((t201 ++ (⟨#[32]⟩ : ByteArray)) ++ t202).toList == ([115, 101, 116, 32, 97, 100, 100] : List UInt8)) = false := beq_eq_false_iff_ne.mpr c11
       have c11b1 : (((t201 ++ (⟨#[32]⟩ : ByteArray)) ++ t202).toList != ([115, 101, 116, 32, 97, 100, 100] : List UInt8)) = true := bne_iff_ne.mpr c11
       by_cases c12 : ((t201 ++ (⟨#[32]⟩ : ByteArray)) ++ t202).toList = ([115, 101, 116, 32, 100, 101, 108] : List UInt8)
       ·rw [if_pos c12] at H
        have c12b0 : (((t201 ++ (⟨#[32]⟩ : ByteArray)) ++ t202).toList == ([115, 101, 116, 32, 100, 101, 108] : List UInt8)) = true := beq_iff_eq.mpr c12
        have c12b1 : (((t201 ++ (⟨#[32]⟩ : ByteArray)) ++ t202).toList != ([115, 101, 116, 32, 100, 101, 108] : List UInt8)) = false := bne_eq_false_iff_eq.mpr c12
        clear c12
        have H' := zae.mk H
        clear H
        go_wp2
        go_meet
        case rel => exact ⟨_, ((((t201 ++ (⟨#[32]⟩ : ByteArray)) ++ t202).toList == ([115, 101, 116, 32, 100, 101, 108] : List UInt8))), (by first | rfl | (simp; done) | (simp [*]; done)), H', ⟨by first | omega | exact Nat.le_refl _⟩, ⟨by (with_reducible repeat (first | refine zai ?_ _ | refine zak ?_ | refine zaj ?_ _)); exact BK200.out⟩, ⟨by repeat with_reducible first | exact HB.out | apply zad | apply zaa | apply zac | refine zag ?_ GE200.out⟩⟩
       ·rw [if_neg c12] at H
        have c12b0 : (((t201 ++ (⟨#[32]⟩ : ByteArray)) ++ t202).toList == ([115, 101, 116, 32, 100, 101, 108] : List UInt8)) = false := beq_eq_false_iff_ne.mpr c12
        have c12b1 : (((t201 ++ (⟨#[32]⟩ : ByteArray)) ++ t202).toList != ([115, 101, 116, 32, 100, 101, 108] : List UInt8)) = true := bne_iff_ne.mpr c12
        by_cases c13 : ((t201 ++ (⟨#[32]⟩ : ByteArray)) ++ t202).toList = ([102, 105, 102, 111, 32, 112, 117, 115, 104] : List UInt8)
        ·rw [if_pos c13] at H
         have c13b0 : (((t201 ++ (⟨#[32]⟩ : ByteArray)) ++ t202).toList == ([102, 105, 102, 111, 32, 112, 117, 115, 104] : List UInt8)) = true := beq_iff_eq.mpr c13
         have c13b1 : (((t201 ++ (⟨#[32]⟩ : ByteArray)) ++ t202).toList != ([102, 105, 102, 111, 32, 112, 117, 115, 104] : List UInt8)) = false := bne_eq_false_iff_eq.mpr c13
         clear c13
         have H' := zae.mk H
         clear H
         go_wp2
         go_meet
         case rel => exact ⟨_, ((((t201 ++ (⟨#[32]⟩ : ByteArray)) ++ t202).toList == ([102, 105, 102, 111, 32, 112, 117, 115, 104] : List UInt8))), (by first | rfl | (simp; done) | (simp [*]; done)), H', ⟨by first | omega | exact Nat.le_refl _⟩, ⟨by (with_reducible repeat (first | refine zai ?_ _ | refine zak ?_ | refine zaj ?_ _)); exact BK200.out⟩, ⟨by repeat with_reducible first | exact HB.out | apply zad | apply zaa | apply zac | refine zag ?_ GE200.out⟩⟩
        ·rw [if_neg c13] at H
         have c13b0 : (((t201 ++ (⟨#[32]⟩ : ByteArray)) ++ t202).toList == ([102, 105, 102, 111, 32, 112, 117, 115, 104] : List UInt8)) = false := beq_eq_false_iff_ne.mpr c13
         have c13b1 : (((t201 ++ (⟨#[32]⟩ : ByteArray)) ++ t202).toList != ([102, 105, 102, 111, 32, 112, 117, 115, 104] : List UInt8)) = true := bne_iff_ne.mpr c13
         have H' := zae.mk H
         clear H
         go_wp2
         go_meet
         case rel => exact ⟨_, ((((t201 ++ (⟨#[32]⟩ : ByteArray)) ++ t202).toList == ([115, 116, 97, 99, 107, 32, 112, 117, 115, 104] : List UInt8))), (by first | rfl | (simp; done) | (simp [*]; done)), H', ⟨by first | omega | exact Nat.le_refl _⟩, ⟨by (with_reducible repeat (first | refine zai ?_ _ | refine zak ?_ | refine zaj ?_ _)); exact BK200.out⟩, ⟨by repeat with_reducible first | exact HB.out | apply zad | apply zaa | apply zac | refine zag ?_ GE200.out⟩⟩
   case rest =>
    clear HC7
    try clear c1
    try clear p2
    try clear c3
    try clear c4
    try clear c4b0
    try clear c4b1
    try clear c4b2
    try clear c6
    try clear c6b0
    try clear c6b1
    try clear c6b2
    try clear c9
    try clear c9b0
    try clear c9b1
    try clear c10
    try clear c10b0
    try clear c10b1
    try clear c11
    try clear c11b0
    try clear c11b1
    try clear c12
    try clear c12b0
    try clear c12b1
    try clear c13
    try clear c13b0
    try clear c13b1
    obtain ⟨kq, x11_6, rfl, HA, HJ6, BK200, HB⟩ := hcut
    cases kq with
    | zero => exact absurd HA.out (by simp [zan.j0])
    | succ kj6 =>
     have H := HA.out
     clear HA
     simp only [zan.j0] at H
     by_cases c14 : x11_6 = true
     ·subst c14
      have H1 : (some ((([2] : List Int)), (-1), false, true)) = some (r1, r2, r3, r4) := by rw [if_pos rfl] at H; exact H
      clear H
      have H := H1
      clear H1
      obtain ⟨y203, hy203⟩ : ∃ y_ : List Int, y_ = (([2] : List Int)) := ⟨_, rfl⟩
      replace H : (some (y203, (-1), false, true)) = some (r1, r2, r3, r4) := by first | (rw [hy203]; with_reducible exact H) | (have H2_ := (Option.bind_some _ _).symm.trans H; rw [hy203]; with_reducible exact H2_) | (have H2_ := (Option.bind_some _ _).symm.trans H; with_reducible exact H2_) | with_reducible exact H | (rw [hy203]; exact H) | exact H
      have Ny203 := zae.mk hy203
      clear hy203
      simp only [Option.some.injEq, Prod.mk.injEq] at H
      obtain ⟨rfl, rfl, rfl, rfl⟩ := H
      go_wp2_with (first | ((with_reducible refine za8 (N := 18) rfl ?_); refine Kd.R_lit (Kd.int .i64) _ 3 ?hg (N := 18) ?hd (xs := ([2] : List Int)) (inner := [.int .i64 2]) (ok := fun _ => True) (okp := fun _ => True) ?hr ?hp (fun _ hk => hk) trivial (Below.refl _ _) (Nat.le_refl _) (by simp) ?_; (case hd => rfl); (case hg => rfl); (case hr => first | (go_simp; done) | (go_simp; rfl)); (case hp => exact (Reps.one (show Kd.M (Kd.int .i64) _ _ _ 2 [.int .i64 2] from rfl) (Reps.none _ _))); intro v204 w15 ho16 hb hg_ hnew_; clear hg_ hnew_; (first | rw [← Ny203.out] at ho16 | (simp only [Int.reduceToNat] at ho16; rw [← Ny203.out] at ho16)); have n0_ := zae.mk (Kd.zcd ho16 (zav (by repeat with_reducible first | exact HB.out | apply zad | apply zaa | apply zac | refine zag ?_ GE200.out))); have n1_ := zae.mk (zau (g := gb200) (o := .cells #[.slice none 0 0, .int .i64 0, .bool false, .bool false] 72 (0, 0)) (by (with_reducible repeat (first | refine zai ?_ _ | refine zak ?_ | refine zaj ?_ _)); exact BK200.out) hb); have n2_ := zae.mk (zaq (by repeat with_reducible first | exact HB.out | apply zad | apply zaa | apply zac | refine zag ?_ GE200.out) hb); clear BK200; clear HB; have HO205 := n0_; have BK200 := n1_; have HB := n2_; clear n0_ n1_ n2_; clear hb ho16; obtain ⟨Ao17, co17, eo17⟩ := Kd.zch HO205.out; subst eo17; obtain ⟨d18_0, d18_1, d18_2, d18_3⟩ := cq4 BK200.out; obtain ⟨e18_0, e18_1, e18_2, e18_3⟩ := fq4 BK200.out))
      refine bodyPost_ret (results_cell_row rfl _ _ gb200 72 #[.slice Ao17 y203.length co17, .int .i64 (-1), .bool false, .bool true] (0, 0) _ rfl (by (with_reducible repeat (first | refine zai ?_ _ | refine zak ?_ | refine zaj ?_ _)); refine pq4 (.slice none 0 0) (.int .i64 0) (.bool false) (.bool false) ?_; (with_reducible repeat (first | refine zai ?_ _ | refine zak ?_ | refine zaj ?_ _)); exact BK200.out) Tryd.underlying72 rfl (by kernel_rfl)) rfl ?_
      exact ⟨_, by first | rfl | (simp [zam, zal] <;> rfl) | (simp [*, zam, zal] <;> rfl), by (with_reducible repeat (first | apply Kd.R_alloc | apply Kd.zbm | apply Kd.zbs)); exact Kd.zcb (Kd.R_far (p := ⟨gb200, 3, none⟩) (Kd.R_far (p := ⟨gb200, 2, none⟩) (Kd.R_far (p := ⟨gb200, 1, none⟩) (Kd.R_far (p := ⟨gb200, 0, none⟩) (Kd.zck HO205.out BK200.out (by decide)) (fun _ hk => hk.2) (.slice Ao17 y203.length co17)) (fun _ hk => hk.2) (.int .i64 (-1))) (fun _ hk => hk.2) (.bool false)) (fun _ hk => hk.2) (.bool true)) (fun _ hk => trivial), by repeat with_reducible first | exact HB.out | apply zad | apply zaa | apply zac | refine zag ?_ GE200.out⟩
     ·replace c14 := Bool.eq_false_iff.mpr c14
      subst c14
      have H1 : (if ((t201 ++ (⟨#[32]⟩ : ByteArray)) ++ t202).toList = ([114, 101, 103, 32, 114, 101, 97, 100] : List UInt8) then (zan.j1 kj6 ((t201 ++ (⟨#[32]⟩ : ByteArray)) ++ t202) (((t201 ++ (⟨#[32]⟩ : ByteArray)) ++ t202).toList == ([114, 101, 103, 32, 114, 101, 97, 100] : List UInt8))) else (if ((t201 ++ (⟨#[32]⟩ : ByteArray)) ++ t202).toList = ([99, 97, 115, 32, 114, 101, 97, 100] : List UInt8) then (zan.j1 kj6 ((t201 ++ (⟨#[32]⟩ : ByteArray)) ++ t202) (((t201 ++ (⟨#[32]⟩ : ByteArray)) ++ t202).toList == ([99, 97, 115, 32, 114, 101, 97, 100] : List UInt8))) else (if ((t201 ++ (⟨#[32]⟩ : ByteArray)) ++ t202).toList = ([102, 105, 102, 111, 32, 112, 111, 112] : List UInt8) then (zan.j1 kj6 ((t201 ++ (⟨#[32]⟩ : ByteArray)) ++ t202) (((t201 ++ (⟨#[32]⟩ : ByteArray)) ++ t202).toList == ([102, 105, 102, 111, 32, 112, 111, 112] : List UInt8))) else (zan.j1 kj6 ((t201 ++ (⟨#[32]⟩ : ByteArray)) ++ t202) (((t201 ++ (⟨#[32]⟩ : ByteArray)) ++ t202).toList == ([115, 116, 97, 99, 107, 32, 112, 111, 112] : List UInt8)))))) = some (r1, r2, r3, r4) := by rw [if_neg (show ¬ (false = true) by decide)] at H; exact H
      clear H
      have H := H1
      clear H1
      have HC19 := zae.mk H
      clear H
      go_upto_if 20 with (fail)
      go_cut [20] (fun v20 wc => ∃ (kq : Nat) (x20_18 : Bool), v20 = .bool x20_18 ∧ zae (zan.j1 kq ((t201 ++ (⟨#[32]⟩ : ByteArray)) ++ t202) x20_18 = some (r1, r2, r3, r4)) ∧ zae (kq ≤ kj6) ∧ zae (wc.heap[gb200]? = some (.cells #[(.slice none 0 0), .int .i64 0, .bool false, .bool false] 72 (0, 0))) ∧ zae (Below w.heap.size w wc))
      case first =>
       have H := HC19.out
       clear HC19
       by_cases c20 : ((t201 ++ (⟨#[32]⟩ : ByteArray)) ++ t202).toList = ([114, 101, 103, 32, 114, 101, 97, 100] : List UInt8)
       ·rw [if_pos c20] at H
        have c20b0 : (((t201 ++ (⟨#[32]⟩ : ByteArray)) ++ t202).toList == ([114, 101, 103, 32, 114, 101, 97, 100] : List UInt8)) = true := beq_iff_eq.mpr c20
        have c20b1 : (((t201 ++ (⟨#[32]⟩ : ByteArray)) ++ t202).toList != ([114, 101, 103, 32, 114, 101, 97, 100] : List UInt8)) = false := bne_eq_false_iff_eq.mpr c20
        clear c20
        (first | rw [c20b0] | (simp only [i64_w]; rw [c20b0]) | skip)
        have H' := zae.mk H
        clear H
        go_wp2
        go_meet
        case rel => exact ⟨_, ((((t201 ++ (⟨#[32]⟩ : ByteArray)) ++ t202).toList == ([114, 101, 103, 32, 114, 101, 97, 100] : List UInt8))), (by first | rfl | (simp; done) | (simp [*]; done)), H', ⟨by have := HJ6.out; first | omega | exact Nat.le_refl _⟩, ⟨by (with_reducible repeat (first | refine zai ?_ _ | refine zak ?_ | refine zaj ?_ _)); exact BK200.out⟩, ⟨by repeat with_reducible first | exact HB.out | apply zad | apply zaa | apply zac | refine zag ?_ GE200.out⟩⟩
       ·rw [if_neg c20] at H
        have c20b0 : (((t201 ++ (⟨#[32]⟩ : ByteArray)) ++ t202).toList == ([114, 101, 103, 32, 114, 101, 97, 100] : List UInt8)) = false := beq_eq_false_iff_ne.mpr c20
        have c20b1 : (((t201 ++ (⟨#[32]⟩ : ByteArray)) ++ t202).toList != ([114, 101, 103, 32, 114, 101, 97, 100] : List UInt8)) = true := bne_iff_ne.mpr c20
        (first | rw [c20b0] | (simp only [i64_w]; rw [c20b0]) | skip)
        by_cases c21 : ((t201 ++ (⟨#[32]⟩ : ByteArray)) ++ t202).toList = ([99, 97, 115, 32, 114, 101, 97, 100] : List UInt8)
        ·rw [if_pos c21] at H
         have c21b0 : (((t201 ++ (⟨#[32]⟩ : ByteArray)) ++ t202).toList == ([99, 97, 115, 32, 114, 101, 97, 100] : List UInt8)) = true := beq_iff_eq.mpr c21
         have c21b1 : (((t201 ++ (⟨#[32]⟩ : ByteArray)) ++ t202).toList != ([99, 97, 115, 32, 114, 101, 97, 100] : List UInt8)) = false := bne_eq_false_iff_eq.mpr c21
         clear c21
         have H' := zae.mk H
         clear H
         go_wp2
         go_meet
         case rel => exact ⟨_, ((((t201 ++ (⟨#[32]⟩ : ByteArray)) ++ t202).toList == ([99, 97, 115, 32, 114, 101, 97, 100] : List UInt8))), (by first | rfl | (simp; done) | (simp [*]; done)), H', ⟨by have := HJ6.out; first | omega | exact Nat.le_refl _⟩, ⟨by (with_reducible repeat (first | refine zai ?_ _ | refine zak ?_ | refine zaj ?_ _)); exact BK200.out⟩, ⟨by repeat with_reducible first | exact HB.out | apply zad | apply zaa | apply zac | refine zag ?_ GE200.out⟩⟩
        ·rw [if_neg c21] at H
         have c21b0 : (((t201 ++ (⟨#[32]⟩ : ByteArray)) ++ t202).toList == ([99, 97, 115, 32, 114, 101, 97, 100] : List UInt8)) = false := beq_eq_false_iff_ne.mpr c21
         have c21b1 : (((t201 ++ (⟨#[32]⟩ : ByteArray)) ++ t202).toList != ([99, 97, 115, 32, 114, 101, 97, 100] : List UInt8)) = true := bne_iff_ne.mpr c21
         by_cases c22 : ((t201 ++ (⟨#[32]⟩ : ByteArray)) ++ t202).toList = ([102, 105, 102, 111, 32, 112, 111, 112] : List UInt8)
         ·rw [if_pos c22] at H
          have c22b0 : (((t201 ++ (⟨#[32]⟩ : ByteArray)) ++ t202).toList == ([102, 105, 102, 111, 32, 112, 111, 112] : List UInt8)) = true := beq_iff_eq.mpr c22
          have c22b1 : (((t201 ++ (⟨#[32]⟩ : ByteArray)) ++ t202).toList != ([102, 105, 102, 111, 32, 112, 111, 112] : List UInt8)) = false := bne_eq_false_iff_eq.mpr c22
          clear c22
          have H' := zae.mk H
          clear H
          go_wp2
          go_meet
          case rel => exact ⟨_, ((((t201 ++ (⟨#[32]⟩ : ByteArray)) ++ t202).toList == ([102, 105, 102, 111, 32, 112, 111, 112] : List UInt8))), (by first | rfl | (simp; done) | (simp [*]; done)), H', ⟨by have := HJ6.out; first | omega | exact Nat.le_refl _⟩, ⟨by (with_reducible repeat (first | refine zai ?_ _ | refine zak ?_ | refine zaj ?_ _)); exact BK200.out⟩, ⟨by repeat with_reducible first | exact HB.out | apply zad | apply zaa | apply zac | refine zag ?_ GE200.out⟩⟩
         ·rw [if_neg c22] at H
          have c22b0 : (((t201 ++ (⟨#[32]⟩ : ByteArray)) ++ t202).toList == ([102, 105, 102, 111, 32, 112, 111, 112] : List UInt8)) = false := beq_eq_false_iff_ne.mpr c22
          have c22b1 : (((t201 ++ (⟨#[32]⟩ : ByteArray)) ++ t202).toList != ([102, 105, 102, 111, 32, 112, 111, 112] : List UInt8)) = true := bne_iff_ne.mpr c22
          have H' := zae.mk H
          clear H
          go_wp2
          go_meet
          case rel => exact ⟨_, ((((t201 ++ (⟨#[32]⟩ : ByteArray)) ++ t202).toList == ([115, 116, 97, 99, 107, 32, 112, 111, 112] : List UInt8))), (by first | rfl | (simp; done) | (simp [*]; done)), H', ⟨by have := HJ6.out; first | omega | exact Nat.le_refl _⟩, ⟨by (with_reducible repeat (first | refine zai ?_ _ | refine zak ?_ | refine zaj ?_ _)); exact BK200.out⟩, ⟨by repeat with_reducible first | exact HB.out | apply zad | apply zaa | apply zac | refine zag ?_ GE200.out⟩⟩
      case rest =>
       clear HC19
       try clear c1
       try clear c2
       try clear p2 p2
       try clear c3
       try clear c4
       try clear c4b0
       try clear c4b1
       try clear c4b2
       try clear c6
       try clear c6b0
       try clear c6b1
       try clear c6b2
       try clear c9
       try clear c9b0
       try clear c9b1
       try clear c10
       try clear c10b0
       try clear c10b1
       try clear c11
       try clear c11b0
       try clear c11b1
       try clear c12
       try clear c12b0
       try clear c12b1
       try clear c13
       try clear c13b0
       try clear c13b1
       try clear c14
       try clear c20
       try clear c20b0
       try clear c20b1
       try clear c21
       try clear c21b0
       try clear c21b1
       try clear c22
       try clear c22b0
       try clear c22b1
       try clear d18_0 d18_1 d18_2 d18_3
       try clear e18_0 e18_1 e18_2 e18_3
       obtain ⟨kq, x20_18, rfl, HA, HJ18, BK200, HB⟩ := hcut
       cases kq with
       | zero => exact absurd HA.out (by simp [zan.j1])
       | succ kj18 =>
        have H := HA.out
        clear HA
        simp only [zan.j1] at H
        by_cases c23 : x20_18 = true
        ·subst c23
         have H1 : (some (([] : List Int), 2, true, true)) = some (r1, r2, r3, r4) := by rw [if_pos rfl] at H; exact H
         clear H
         have H := H1
         clear H1
         simp only [Option.some.injEq, Prod.mk.injEq] at H
         obtain ⟨rfl, rfl, rfl, rfl⟩ := H
         obtain ⟨d24_0, d24_1, d24_2, d24_3⟩ := cq4 BK200.out
         obtain ⟨e24_0, e24_1, e24_2, e24_3⟩ := fq4 BK200.out
         go_wp2
         refine bodyPost_ret (results_cell_row rfl _ _ gb200 72 #[.slice none 0 0, .int .i64 2, .bool true, .bool true] (0, 0) _ rfl (by (with_reducible repeat (first | refine zai ?_ _ | refine zak ?_ | refine zaj ?_ _)); refine pq4 (.slice none 0 0) (.int .i64 0) (.bool false) (.bool false) ?_; (with_reducible repeat (first | refine zai ?_ _ | refine zak ?_ | refine zaj ?_ _)); exact BK200.out) Tryd.underlying72 rfl (by kernel_rfl)) rfl ?_
         exact ⟨_, by first | rfl | (simp [zam, zal] <;> rfl) | (simp [*, zam, zal] <;> rfl), by first | exact Kd.R_nil _ _ _ _ _ | exact Kd.N_nil _ _ _ _ _ | exact Kd.V_nil _ _ _ _ _ | exact Kd.Q_nil _ _ _ _ _ | exact Kd.S_nil _ _ _ _ _, by repeat with_reducible first | exact HB.out | apply zad | apply zaa | apply zac | refine zag ?_ GE200.out⟩
        ·replace c23 := Bool.eq_false_iff.mpr c23
         subst c23
         have H1 : (if ((t201 ++ (⟨#[32]⟩ : ByteArray)) ++ t202).toList = ([99, 97, 115, 32, 115, 119, 97, 112] : List UInt8) then (some ((([2, 2] : List Int)), 6, false, true)) else (if ((t201 ++ (⟨#[32]⟩ : ByteArray)) ++ t202).toList = ([115, 101, 116, 32, 104, 97, 115] : List UInt8) then (some ((([2] : List Int)), 6, false, true)) else (if ((t201 ++ (⟨#[32]⟩ : ByteArray)) ++ t202).toList = ([109, 97, 112, 32, 112, 117, 116] : List UInt8) then (some ((([3, 2] : List Int)), (-1), false, true)) else (if ((t201 ++ (⟨#[32]⟩ : ByteArray)) ++ t202).toList = ([109, 97, 112, 32, 103, 101, 116] : List UInt8) then (some ((([3] : List Int)), 2, true, true)) else (if ((t201 ++ (⟨#[32]⟩ : ByteArray)) ++ t202).toList = ([109, 97, 112, 32, 100, 101, 108] : List UInt8) then (some ((([3] : List Int)), (-1), false, true)) else (if ((t201 ++ (⟨#[32]⟩ : ByteArray)) ++ t202).toList = ([108, 111, 99, 107, 32, 116, 97, 107, 101] : List UInt8) then (zan.j2 kj18 ((t201 ++ (⟨#[32]⟩ : ByteArray)) ++ t202) (((t201 ++ (⟨#[32]⟩ : ByteArray)) ++ t202).toList == ([108, 111, 99, 107, 32, 116, 97, 107, 101] : List UInt8))) else (zan.j2 kj18 ((t201 ++ (⟨#[32]⟩ : ByteArray)) ++ t202) (((t201 ++ (⟨#[32]⟩ : ByteArray)) ++ t202).toList == ([108, 111, 99, 107, 32, 102, 114, 101, 101] : List UInt8))))))))) = some (r1, r2, r3, r4) := by rw [if_neg (show ¬ (false = true) by decide)] at H; exact H
         clear H
         have H := H1
         clear H1
         by_cases c25 : ((t201 ++ (⟨#[32]⟩ : ByteArray)) ++ t202).toList = ([99, 97, 115, 32, 115, 119, 97, 112] : List UInt8)
         ·rw [if_pos c25] at H
          have c25b0 : (((t201 ++ (⟨#[32]⟩ : ByteArray)) ++ t202).toList == ([99, 97, 115, 32, 115, 119, 97, 112] : List UInt8)) = true := beq_iff_eq.mpr c25
          have c25b1 : (((t201 ++ (⟨#[32]⟩ : ByteArray)) ++ t202).toList != ([99, 97, 115, 32, 115, 119, 97, 112] : List UInt8)) = false := bne_eq_false_iff_eq.mpr c25
          clear c25
          obtain ⟨y206, hy206⟩ : ∃ y_ : List Int, y_ = (([2, 2] : List Int)) := ⟨_, rfl⟩
          replace H : (some (y206, 6, false, true)) = some (r1, r2, r3, r4) := by first | (rw [hy206]; with_reducible exact H) | (have H2_ := (Option.bind_some _ _).symm.trans H; rw [hy206]; with_reducible exact H2_) | (have H2_ := (Option.bind_some _ _).symm.trans H; with_reducible exact H2_) | with_reducible exact H | (rw [hy206]; exact H) | exact H
          have Ny206 := zae.mk hy206
          clear hy206
          simp only [Option.some.injEq, Prod.mk.injEq] at H
          obtain ⟨rfl, rfl, rfl, rfl⟩ := H
          go_wp2_with (first | ((with_reducible refine za8 (N := 28) rfl ?_); refine Kd.R_lit (Kd.int .i64) _ 3 ?hg (N := 28) ?hd (xs := ([2, 2] : List Int)) (inner := [.int .i64 2, .int .i64 2]) (ok := fun _ => True) (okp := fun _ => True) ?hr ?hp (fun _ hk => hk) trivial (Below.refl _ _) (Nat.le_refl _) (by simp) ?_; (case hd => rfl); (case hg => rfl); (case hr => first | (go_simp; done) | (go_simp; rfl)); (case hp => exact (Reps.one (show Kd.M (Kd.int .i64) _ _ _ 2 [.int .i64 2] from rfl) (Reps.one (show Kd.M (Kd.int .i64) _ _ _ 2 [.int .i64 2] from rfl) (Reps.none _ _)))); intro v207 w26 ho27 hb hg_ hnew_; clear hg_ hnew_; (first | rw [← Ny206.out] at ho27 | (simp only [Int.reduceToNat] at ho27; rw [← Ny206.out] at ho27)); have n0_ := zae.mk (Kd.zcd ho27 (zav (by repeat with_reducible first | exact HB.out | apply zad | apply zaa | apply zac | refine zag ?_ GE200.out))); have n1_ := zae.mk (zau (g := gb200) (o := .cells #[.slice none 0 0, .int .i64 0, .bool false, .bool false] 72 (0, 0)) (by (with_reducible repeat (first | refine zai ?_ _ | refine zak ?_ | refine zaj ?_ _)); exact BK200.out) hb); have n2_ := zae.mk (zaq (by repeat with_reducible first | exact HB.out | apply zad | apply zaa | apply zac | refine zag ?_ GE200.out) hb); clear BK200; clear HB; have HO208 := n0_; have BK200 := n1_; have HB := n2_; clear n0_ n1_ n2_; clear hb ho27; obtain ⟨Ao28, co28, eo28⟩ := Kd.zch HO208.out; subst eo28; obtain ⟨d29_0, d29_1, d29_2, d29_3⟩ := cq4 BK200.out; obtain ⟨e29_0, e29_1, e29_2, e29_3⟩ := fq4 BK200.out))
          refine bodyPost_ret (results_cell_row rfl _ _ gb200 72 #[.slice Ao28 y206.length co28, .int .i64 6, .bool false, .bool true] (0, 0) _ rfl (by (with_reducible repeat (first | refine zai ?_ _ | refine zak ?_ | refine zaj ?_ _)); refine pq4 (.slice none 0 0) (.int .i64 0) (.bool false) (.bool false) ?_; (with_reducible repeat (first | refine zai ?_ _ | refine zak ?_ | refine zaj ?_ _)); exact BK200.out) Tryd.underlying72 rfl (by kernel_rfl)) rfl ?_
          exact ⟨_, by first | rfl | (simp [zam, zal] <;> rfl) | (simp [*, zam, zal] <;> rfl), by (with_reducible repeat (first | apply Kd.R_alloc | apply Kd.zbm | apply Kd.zbs)); exact Kd.zcb (Kd.R_far (p := ⟨gb200, 3, none⟩) (Kd.R_far (p := ⟨gb200, 2, none⟩) (Kd.R_far (p := ⟨gb200, 1, none⟩) (Kd.R_far (p := ⟨gb200, 0, none⟩) (Kd.zck HO208.out BK200.out (by decide)) (fun _ hk => hk.2) (.slice Ao28 y206.length co28)) (fun _ hk => hk.2) (.int .i64 6)) (fun _ hk => hk.2) (.bool false)) (fun _ hk => hk.2) (.bool true)) (fun _ hk => trivial), by repeat with_reducible first | exact HB.out | apply zad | apply zaa | apply zac | refine zag ?_ GE200.out⟩
         ·rw [if_neg c25] at H
          have c25b0 : (((t201 ++ (⟨#[32]⟩ : ByteArray)) ++ t202).toList == ([99, 97, 115, 32, 115, 119, 97, 112] : List UInt8)) = false := beq_eq_false_iff_ne.mpr c25
          have c25b1 : (((t201 ++ (⟨#[32]⟩ : ByteArray)) ++ t202).toList != ([99, 97, 115, 32, 115, 119, 97, 112] : List UInt8)) = true := bne_iff_ne.mpr c25
          by_cases c30 : ((t201 ++ (⟨#[32]⟩ : ByteArray)) ++ t202).toList = ([115, 101, 116, 32, 104, 97, 115] : List UInt8)
          ·rw [if_pos c30] at H
           have c30b0 : (((t201 ++ (⟨#[32]⟩ : ByteArray)) ++ t202).toList == ([115, 101, 116, 32, 104, 97, 115] : List UInt8)) = true := beq_iff_eq.mpr c30
           have c30b1 : (((t201 ++ (⟨#[32]⟩ : ByteArray)) ++ t202).toList != ([115, 101, 116, 32, 104, 97, 115] : List UInt8)) = false := bne_eq_false_iff_eq.mpr c30
           clear c30
           obtain ⟨y209, hy209⟩ : ∃ y_ : List Int, y_ = (([2] : List Int)) := ⟨_, rfl⟩
           replace H : (some (y209, 6, false, true)) = some (r1, r2, r3, r4) := by first | (rw [hy209]; with_reducible exact H) | (have H2_ := (Option.bind_some _ _).symm.trans H; rw [hy209]; with_reducible exact H2_) | (have H2_ := (Option.bind_some _ _).symm.trans H; with_reducible exact H2_) | with_reducible exact H | (rw [hy209]; exact H) | exact H
           have Ny209 := zae.mk hy209
           clear hy209
           simp only [Option.some.injEq, Prod.mk.injEq] at H
           obtain ⟨rfl, rfl, rfl, rfl⟩ := H
           go_wp2_with (first | ((with_reducible refine za8 (N := 32) rfl ?_); refine Kd.R_lit (Kd.int .i64) _ 3 ?hg (N := 32) ?hd (xs := ([2] : List Int)) (inner := [.int .i64 2]) (ok := fun _ => True) (okp := fun _ => True) ?hr ?hp (fun _ hk => hk) trivial (Below.refl _ _) (Nat.le_refl _) (by simp) ?_; (case hd => rfl); (case hg => rfl); (case hr => first | (go_simp; done) | (go_simp; rfl)); (case hp => exact (Reps.one (show Kd.M (Kd.int .i64) _ _ _ 2 [.int .i64 2] from rfl) (Reps.none _ _))); intro v210 w31 ho32 hb hg_ hnew_; clear hg_ hnew_; (first | rw [← Ny209.out] at ho32 | (simp only [Int.reduceToNat] at ho32; rw [← Ny209.out] at ho32)); have n0_ := zae.mk (Kd.zcd ho32 (zav (by repeat with_reducible first | exact HB.out | apply zad | apply zaa | apply zac | refine zag ?_ GE200.out))); have n1_ := zae.mk (zau (g := gb200) (o := .cells #[.slice none 0 0, .int .i64 0, .bool false, .bool false] 72 (0, 0)) (by (with_reducible repeat (first | refine zai ?_ _ | refine zak ?_ | refine zaj ?_ _)); exact BK200.out) hb); have n2_ := zae.mk (zaq (by repeat with_reducible first | exact HB.out | apply zad | apply zaa | apply zac | refine zag ?_ GE200.out) hb); clear BK200; clear HB; have HO211 := n0_; have BK200 := n1_; have HB := n2_; clear n0_ n1_ n2_; clear hb ho32; obtain ⟨Ao33, co33, eo33⟩ := Kd.zch HO211.out; subst eo33; obtain ⟨d34_0, d34_1, d34_2, d34_3⟩ := cq4 BK200.out; obtain ⟨e34_0, e34_1, e34_2, e34_3⟩ := fq4 BK200.out))
           refine bodyPost_ret (results_cell_row rfl _ _ gb200 72 #[.slice Ao33 y209.length co33, .int .i64 6, .bool false, .bool true] (0, 0) _ rfl (by (with_reducible repeat (first | refine zai ?_ _ | refine zak ?_ | refine zaj ?_ _)); refine pq4 (.slice none 0 0) (.int .i64 0) (.bool false) (.bool false) ?_; (with_reducible repeat (first | refine zai ?_ _ | refine zak ?_ | refine zaj ?_ _)); exact BK200.out) Tryd.underlying72 rfl (by kernel_rfl)) rfl ?_
           exact ⟨_, by first | rfl | (simp [zam, zal] <;> rfl) | (simp [*, zam, zal] <;> rfl), by (with_reducible repeat (first | apply Kd.R_alloc | apply Kd.zbm | apply Kd.zbs)); exact Kd.zcb (Kd.R_far (p := ⟨gb200, 3, none⟩) (Kd.R_far (p := ⟨gb200, 2, none⟩) (Kd.R_far (p := ⟨gb200, 1, none⟩) (Kd.R_far (p := ⟨gb200, 0, none⟩) (Kd.zck HO211.out BK200.out (by decide)) (fun _ hk => hk.2) (.slice Ao33 y209.length co33)) (fun _ hk => hk.2) (.int .i64 6)) (fun _ hk => hk.2) (.bool false)) (fun _ hk => hk.2) (.bool true)) (fun _ hk => trivial), by repeat with_reducible first | exact HB.out | apply zad | apply zaa | apply zac | refine zag ?_ GE200.out⟩
          ·rw [if_neg c30] at H
           have c30b0 : (((t201 ++ (⟨#[32]⟩ : ByteArray)) ++ t202).toList == ([115, 101, 116, 32, 104, 97, 115] : List UInt8)) = false := beq_eq_false_iff_ne.mpr c30
           have c30b1 : (((t201 ++ (⟨#[32]⟩ : ByteArray)) ++ t202).toList != ([115, 101, 116, 32, 104, 97, 115] : List UInt8)) = true := bne_iff_ne.mpr c30
           by_cases c35 : ((t201 ++ (⟨#[32]⟩ : ByteArray)) ++ t202).toList = ([109, 97, 112, 32, 112, 117, 116] : List UInt8)
           ·rw [if_pos c35] at H
            have c35b0 : (((t201 ++ (⟨#[32]⟩ : ByteArray)) ++ t202).toList == ([109, 97, 112, 32, 112, 117, 116] : List UInt8)) = true := beq_iff_eq.mpr c35
            have c35b1 : (((t201 ++ (⟨#[32]⟩ : ByteArray)) ++ t202).toList != ([109, 97, 112, 32, 112, 117, 116] : List UInt8)) = false := bne_eq_false_iff_eq.mpr c35
            clear c35
            obtain ⟨y212, hy212⟩ : ∃ y_ : List Int, y_ = (([3, 2] : List Int)) := ⟨_, rfl⟩
            replace H : (some (y212, (-1), false, true)) = some (r1, r2, r3, r4) := by first | (rw [hy212]; with_reducible exact H) | (have H2_ := (Option.bind_some _ _).symm.trans H; rw [hy212]; with_reducible exact H2_) | (have H2_ := (Option.bind_some _ _).symm.trans H; with_reducible exact H2_) | with_reducible exact H | (rw [hy212]; exact H) | exact H
            have Ny212 := zae.mk hy212
            clear hy212
            simp only [Option.some.injEq, Prod.mk.injEq] at H
            obtain ⟨rfl, rfl, rfl, rfl⟩ := H
            go_wp2_with (first | ((with_reducible refine za8 (N := 36) rfl ?_); refine Kd.R_lit (Kd.int .i64) _ 3 ?hg (N := 36) ?hd (xs := ([3, 2] : List Int)) (inner := [.int .i64 3, .int .i64 2]) (ok := fun _ => True) (okp := fun _ => True) ?hr ?hp (fun _ hk => hk) trivial (Below.refl _ _) (Nat.le_refl _) (by simp) ?_; (case hd => rfl); (case hg => rfl); (case hr => first | (go_simp; done) | (go_simp; rfl)); (case hp => exact (Reps.one (show Kd.M (Kd.int .i64) _ _ _ 3 [.int .i64 3] from rfl) (Reps.one (show Kd.M (Kd.int .i64) _ _ _ 2 [.int .i64 2] from rfl) (Reps.none _ _)))); intro v213 w36 ho37 hb hg_ hnew_; clear hg_ hnew_; (first | rw [← Ny212.out] at ho37 | (simp only [Int.reduceToNat] at ho37; rw [← Ny212.out] at ho37)); have n0_ := zae.mk (Kd.zcd ho37 (zav (by repeat with_reducible first | exact HB.out | apply zad | apply zaa | apply zac | refine zag ?_ GE200.out))); have n1_ := zae.mk (zau (g := gb200) (o := .cells #[.slice none 0 0, .int .i64 0, .bool false, .bool false] 72 (0, 0)) (by (with_reducible repeat (first | refine zai ?_ _ | refine zak ?_ | refine zaj ?_ _)); exact BK200.out) hb); have n2_ := zae.mk (zaq (by repeat with_reducible first | exact HB.out | apply zad | apply zaa | apply zac | refine zag ?_ GE200.out) hb); clear BK200; clear HB; have HO214 := n0_; have BK200 := n1_; have HB := n2_; clear n0_ n1_ n2_; clear hb ho37; obtain ⟨Ao38, co38, eo38⟩ := Kd.zch HO214.out; subst eo38; obtain ⟨d39_0, d39_1, d39_2, d39_3⟩ := cq4 BK200.out; obtain ⟨e39_0, e39_1, e39_2, e39_3⟩ := fq4 BK200.out))
            refine bodyPost_ret (results_cell_row rfl _ _ gb200 72 #[.slice Ao38 y212.length co38, .int .i64 (-1), .bool false, .bool true] (0, 0) _ rfl (by (with_reducible repeat (first | refine zai ?_ _ | refine zak ?_ | refine zaj ?_ _)); refine pq4 (.slice none 0 0) (.int .i64 0) (.bool false) (.bool false) ?_; (with_reducible repeat (first | refine zai ?_ _ | refine zak ?_ | refine zaj ?_ _)); exact BK200.out) Tryd.underlying72 rfl (by kernel_rfl)) rfl ?_
            exact ⟨_, by first | rfl | (simp [zam, zal] <;> rfl) | (simp [*, zam, zal] <;> rfl), by (with_reducible repeat (first | apply Kd.R_alloc | apply Kd.zbm | apply Kd.zbs)); exact Kd.zcb (Kd.R_far (p := ⟨gb200, 3, none⟩) (Kd.R_far (p := ⟨gb200, 2, none⟩) (Kd.R_far (p := ⟨gb200, 1, none⟩) (Kd.R_far (p := ⟨gb200, 0, none⟩) (Kd.zck HO214.out BK200.out (by decide)) (fun _ hk => hk.2) (.slice Ao38 y212.length co38)) (fun _ hk => hk.2) (.int .i64 (-1))) (fun _ hk => hk.2) (.bool false)) (fun _ hk => hk.2) (.bool true)) (fun _ hk => trivial), by repeat with_reducible first | exact HB.out | apply zad | apply zaa | apply zac | refine zag ?_ GE200.out⟩
           ·rw [if_neg c35] at H
            have c35b0 : (((t201 ++ (⟨#[32]⟩ : ByteArray)) ++ t202).toList == ([109, 97, 112, 32, 112, 117, 116] : List UInt8)) = false := beq_eq_false_iff_ne.mpr c35
            have c35b1 : (((t201 ++ (⟨#[32]⟩ : ByteArray)) ++ t202).toList != ([109, 97, 112, 32, 112, 117, 116] : List UInt8)) = true := bne_iff_ne.mpr c35
            by_cases c40 : ((t201 ++ (⟨#[32]⟩ : ByteArray)) ++ t202).toList = ([109, 97, 112, 32, 103, 101, 116] : List UInt8)
            ·rw [if_pos c40] at H
             have c40b0 : (((t201 ++ (⟨#[32]⟩ : ByteArray)) ++ t202).toList == ([109, 97, 112, 32, 103, 101, 116] : List UInt8)) = true := beq_iff_eq.mpr c40
             have c40b1 : (((t201 ++ (⟨#[32]⟩ : ByteArray)) ++ t202).toList != ([109, 97, 112, 32, 103, 101, 116] : List UInt8)) = false := bne_eq_false_iff_eq.mpr c40
             clear c40
             obtain ⟨y215, hy215⟩ : ∃ y_ : List Int, y_ = (([3] : List Int)) := ⟨_, rfl⟩
             replace H : (some (y215, 2, true, true)) = some (r1, r2, r3, r4) := by first | (rw [hy215]; with_reducible exact H) | (have H2_ := (Option.bind_some _ _).symm.trans H; rw [hy215]; with_reducible exact H2_) | (have H2_ := (Option.bind_some _ _).symm.trans H; with_reducible exact H2_) | with_reducible exact H | (rw [hy215]; exact H) | exact H
             have Ny215 := zae.mk hy215
             clear hy215
             simp only [Option.some.injEq, Prod.mk.injEq] at H
             obtain ⟨rfl, rfl, rfl, rfl⟩ := H
             go_wp2_with (first | ((with_reducible refine za8 (N := 40) rfl ?_); refine Kd.R_lit (Kd.int .i64) _ 3 ?hg (N := 40) ?hd (xs := ([3] : List Int)) (inner := [.int .i64 3]) (ok := fun _ => True) (okp := fun _ => True) ?hr ?hp (fun _ hk => hk) trivial (Below.refl _ _) (Nat.le_refl _) (by simp) ?_; (case hd => rfl); (case hg => rfl); (case hr => first | (go_simp; done) | (go_simp; rfl)); (case hp => exact (Reps.one (show Kd.M (Kd.int .i64) _ _ _ 3 [.int .i64 3] from rfl) (Reps.none _ _))); intro v216 w41 ho42 hb hg_ hnew_; clear hg_ hnew_; (first | rw [← Ny215.out] at ho42 | (simp only [Int.reduceToNat] at ho42; rw [← Ny215.out] at ho42)); have n0_ := zae.mk (Kd.zcd ho42 (zav (by repeat with_reducible first | exact HB.out | apply zad | apply zaa | apply zac | refine zag ?_ GE200.out))); have n1_ := zae.mk (zau (g := gb200) (o := .cells #[.slice none 0 0, .int .i64 0, .bool false, .bool false] 72 (0, 0)) (by (with_reducible repeat (first | refine zai ?_ _ | refine zak ?_ | refine zaj ?_ _)); exact BK200.out) hb); have n2_ := zae.mk (zaq (by repeat with_reducible first | exact HB.out | apply zad | apply zaa | apply zac | refine zag ?_ GE200.out) hb); clear BK200; clear HB; have HO217 := n0_; have BK200 := n1_; have HB := n2_; clear n0_ n1_ n2_; clear hb ho42; obtain ⟨Ao43, co43, eo43⟩ := Kd.zch HO217.out; subst eo43; obtain ⟨d44_0, d44_1, d44_2, d44_3⟩ := cq4 BK200.out; obtain ⟨e44_0, e44_1, e44_2, e44_3⟩ := fq4 BK200.out))
             refine bodyPost_ret (results_cell_row rfl _ _ gb200 72 #[.slice Ao43 y215.length co43, .int .i64 2, .bool true, .bool true] (0, 0) _ rfl (by (with_reducible repeat (first | refine zai ?_ _ | refine zak ?_ | refine zaj ?_ _)); refine pq4 (.slice none 0 0) (.int .i64 0) (.bool false) (.bool false) ?_; (with_reducible repeat (first | refine zai ?_ _ | refine zak ?_ | refine zaj ?_ _)); exact BK200.out) Tryd.underlying72 rfl (by kernel_rfl)) rfl ?_
             exact ⟨_, by first | rfl | (simp [zam, zal] <;> rfl) | (simp [*, zam, zal] <;> rfl), by (with_reducible repeat (first | apply Kd.R_alloc | apply Kd.zbm | apply Kd.zbs)); exact Kd.zcb (Kd.R_far (p := ⟨gb200, 3, none⟩) (Kd.R_far (p := ⟨gb200, 2, none⟩) (Kd.R_far (p := ⟨gb200, 1, none⟩) (Kd.R_far (p := ⟨gb200, 0, none⟩) (Kd.zck HO217.out BK200.out (by decide)) (fun _ hk => hk.2) (.slice Ao43 y215.length co43)) (fun _ hk => hk.2) (.int .i64 2)) (fun _ hk => hk.2) (.bool true)) (fun _ hk => hk.2) (.bool true)) (fun _ hk => trivial), by repeat with_reducible first | exact HB.out | apply zad | apply zaa | apply zac | refine zag ?_ GE200.out⟩
            ·rw [if_neg c40] at H
             have c40b0 : (((t201 ++ (⟨#[32]⟩ : ByteArray)) ++ t202).toList == ([109, 97, 112, 32, 103, 101, 116] : List UInt8)) = false := beq_eq_false_iff_ne.mpr c40
             have c40b1 : (((t201 ++ (⟨#[32]⟩ : ByteArray)) ++ t202).toList != ([109, 97, 112, 32, 103, 101, 116] : List UInt8)) = true := bne_iff_ne.mpr c40
             by_cases c45 : ((t201 ++ (⟨#[32]⟩ : ByteArray)) ++ t202).toList = ([109, 97, 112, 32, 100, 101, 108] : List UInt8)
             ·rw [if_pos c45] at H
              have c45b0 : (((t201 ++ (⟨#[32]⟩ : ByteArray)) ++ t202).toList == ([109, 97, 112, 32, 100, 101, 108] : List UInt8)) = true := beq_iff_eq.mpr c45
              have c45b1 : (((t201 ++ (⟨#[32]⟩ : ByteArray)) ++ t202).toList != ([109, 97, 112, 32, 100, 101, 108] : List UInt8)) = false := bne_eq_false_iff_eq.mpr c45
              clear c45
              obtain ⟨y218, hy218⟩ : ∃ y_ : List Int, y_ = (([3] : List Int)) := ⟨_, rfl⟩
              replace H : (some (y218, (-1), false, true)) = some (r1, r2, r3, r4) := by first | (rw [hy218]; with_reducible exact H) | (have H2_ := (Option.bind_some _ _).symm.trans H; rw [hy218]; with_reducible exact H2_) | (have H2_ := (Option.bind_some _ _).symm.trans H; with_reducible exact H2_) | with_reducible exact H | (rw [hy218]; exact H) | exact H
              have Ny218 := zae.mk hy218
              clear hy218
              simp only [Option.some.injEq, Prod.mk.injEq] at H
              obtain ⟨rfl, rfl, rfl, rfl⟩ := H
              go_wp2_with (first | ((with_reducible refine za8 (N := 44) rfl ?_); refine Kd.R_lit (Kd.int .i64) _ 3 ?hg (N := 44) ?hd (xs := ([3] : List Int)) (inner := [.int .i64 3]) (ok := fun _ => True) (okp := fun _ => True) ?hr ?hp (fun _ hk => hk) trivial (Below.refl _ _) (Nat.le_refl _) (by simp) ?_; (case hd => rfl); (case hg => rfl); (case hr => first | (go_simp; done) | (go_simp; rfl)); (case hp => exact (Reps.one (show Kd.M (Kd.int .i64) _ _ _ 3 [.int .i64 3] from rfl) (Reps.none _ _))); intro v219 w46 ho47 hb hg_ hnew_; clear hg_ hnew_; (first | rw [← Ny218.out] at ho47 | (simp only [Int.reduceToNat] at ho47; rw [← Ny218.out] at ho47)); have n0_ := zae.mk (Kd.zcd ho47 (zav (by repeat with_reducible first | exact HB.out | apply zad | apply zaa | apply zac | refine zag ?_ GE200.out))); have n1_ := zae.mk (zau (g := gb200) (o := .cells #[.slice none 0 0, .int .i64 0, .bool false, .bool false] 72 (0, 0)) (by (with_reducible repeat (first | refine zai ?_ _ | refine zak ?_ | refine zaj ?_ _)); exact BK200.out) hb); have n2_ := zae.mk (zaq (by repeat with_reducible first | exact HB.out | apply zad | apply zaa | apply zac | refine zag ?_ GE200.out) hb); clear BK200; clear HB; have HO220 := n0_; have BK200 := n1_; have HB := n2_; clear n0_ n1_ n2_; clear hb ho47; obtain ⟨Ao48, co48, eo48⟩ := Kd.zch HO220.out; subst eo48; obtain ⟨d49_0, d49_1, d49_2, d49_3⟩ := cq4 BK200.out; obtain ⟨e49_0, e49_1, e49_2, e49_3⟩ := fq4 BK200.out))
              refine bodyPost_ret (results_cell_row rfl _ _ gb200 72 #[.slice Ao48 y218.length co48, .int .i64 (-1), .bool false, .bool true] (0, 0) _ rfl (by (with_reducible repeat (first | refine zai ?_ _ | refine zak ?_ | refine zaj ?_ _)); refine pq4 (.slice none 0 0) (.int .i64 0) (.bool false) (.bool false) ?_; (with_reducible repeat (first | refine zai ?_ _ | refine zak ?_ | refine zaj ?_ _)); exact BK200.out) Tryd.underlying72 rfl (by kernel_rfl)) rfl ?_
              exact ⟨_, by first | rfl | (simp [zam, zal] <;> rfl) | (simp [*, zam, zal] <;> rfl), by (with_reducible repeat (first | apply Kd.R_alloc | apply Kd.zbm | apply Kd.zbs)); exact Kd.zcb (Kd.R_far (p := ⟨gb200, 3, none⟩) (Kd.R_far (p := ⟨gb200, 2, none⟩) (Kd.R_far (p := ⟨gb200, 1, none⟩) (Kd.R_far (p := ⟨gb200, 0, none⟩) (Kd.zck HO220.out BK200.out (by decide)) (fun _ hk => hk.2) (.slice Ao48 y218.length co48)) (fun _ hk => hk.2) (.int .i64 (-1))) (fun _ hk => hk.2) (.bool false)) (fun _ hk => hk.2) (.bool true)) (fun _ hk => trivial), by repeat with_reducible first | exact HB.out | apply zad | apply zaa | apply zac | refine zag ?_ GE200.out⟩
             ·rw [if_neg c45] at H
              have c45b0 : (((t201 ++ (⟨#[32]⟩ : ByteArray)) ++ t202).toList == ([109, 97, 112, 32, 100, 101, 108] : List UInt8)) = false := beq_eq_false_iff_ne.mpr c45
              have c45b1 : (((t201 ++ (⟨#[32]⟩ : ByteArray)) ++ t202).toList != ([109, 97, 112, 32, 100, 101, 108] : List UInt8)) = true := bne_iff_ne.mpr c45
              have HC50 := zae.mk H
              clear H
              go_upto_if 46 with (fail)
              go_cut [46] (fun v46 wc => ∃ (kq : Nat) (x46_49 : Bool), v46 = .bool x46_49 ∧ zae (zan.j2 kq ((t201 ++ (⟨#[32]⟩ : ByteArray)) ++ t202) x46_49 = some (r1, r2, r3, r4)) ∧ zae (kq ≤ kj18) ∧ zae (wc.heap[gb200]? = some (.cells #[(.slice none 0 0), .int .i64 0, .bool false, .bool false] 72 (0, 0))) ∧ zae (Below w.heap.size w wc))
              case first =>
               have H := HC50.out
               clear HC50
               by_cases c51 : ((t201 ++ (⟨#[32]⟩ : ByteArray)) ++ t202).toList = ([108, 111, 99, 107, 32, 116, 97, 107, 101] : List UInt8)
               ·rw [if_pos c51] at H
                have c51b0 : (((t201 ++ (⟨#[32]⟩ : ByteArray)) ++ t202).toList == ([108, 111, 99, 107, 32, 116, 97, 107, 101] : List UInt8)) = true := beq_iff_eq.mpr c51
                have c51b1 : (((t201 ++ (⟨#[32]⟩ : ByteArray)) ++ t202).toList != ([108, 111, 99, 107, 32, 116, 97, 107, 101] : List UInt8)) = false := bne_eq_false_iff_eq.mpr c51
                clear c51
                (first | rw [c51b0] | (simp only [i64_w]; rw [c51b0]) | skip)
                have H' := zae.mk H
                clear H
                go_wp2
                go_meet
                case rel => exact ⟨_, ((((t201 ++ (⟨#[32]⟩ : ByteArray)) ++ t202).toList == ([108, 111, 99, 107, 32, 116, 97, 107, 101] : List UInt8))), (by first | rfl | (simp; done) | (simp [*]; done)), H', ⟨by have := HJ6.out; have := HJ18.out; first | omega | exact Nat.le_refl _⟩, ⟨by (with_reducible repeat (first | refine zai ?_ _ | refine zak ?_ | refine zaj ?_ _)); exact BK200.out⟩, ⟨by repeat with_reducible first | exact HB.out | apply zad | apply zaa | apply zac | refine zag ?_ GE200.out⟩⟩
               ·rw [if_neg c51] at H
                have c51b0 : (((t201 ++ (⟨#[32]⟩ : ByteArray)) ++ t202).toList == ([108, 111, 99, 107, 32, 116, 97, 107, 101] : List UInt8)) = false := beq_eq_false_iff_ne.mpr c51
                have c51b1 : (((t201 ++ (⟨#[32]⟩ : ByteArray)) ++ t202).toList != ([108, 111, 99, 107, 32, 116, 97, 107, 101] : List UInt8)) = true := bne_iff_ne.mpr c51
                (first | rw [c51b0] | (simp only [i64_w]; rw [c51b0]) | skip)
                have H' := zae.mk H
                clear H
                go_wp2
                go_meet
                case rel => exact ⟨_, ((((t201 ++ (⟨#[32]⟩ : ByteArray)) ++ t202).toList == ([108, 111, 99, 107, 32, 102, 114, 101, 101] : List UInt8))), (by first | rfl | (simp; done) | (simp [*]; done)), H', ⟨by have := HJ6.out; have := HJ18.out; first | omega | exact Nat.le_refl _⟩, ⟨by (with_reducible repeat (first | refine zai ?_ _ | refine zak ?_ | refine zaj ?_ _)); exact BK200.out⟩, ⟨by repeat with_reducible first | exact HB.out | apply zad | apply zaa | apply zac | refine zag ?_ GE200.out⟩⟩
              case rest =>
               clear HC50
               try clear c1
               try clear c2
               try clear p2 p2
               try clear c3
               try clear c4
               try clear c4b0
               try clear c4b1
               try clear c4b2
               try clear c5
               try clear c6
               try clear c6b0
               try clear c6b1
               try clear c6b2
               try clear c9
               try clear c9b0
               try clear c9b1
               try clear c10
               try clear c10b0
               try clear c10b1
               try clear c11
               try clear c11b0
               try clear c11b1
               try clear c12
               try clear c12b0
               try clear c12b1
               try clear c13
               try clear c13b0
               try clear c13b1
               try clear c14
               try clear c20
               try clear c20b0
               try clear c20b1
               try clear c21
               try clear c21b0
               try clear c21b1
               try clear c22
               try clear c22b0
               try clear c22b1
               try clear c23
               try clear c25
               try clear c25b0
               try clear c25b1
               try clear c30
               try clear c30b0
               try clear c30b1
               try clear c35
               try clear c35b0
               try clear c35b1
               try clear c38
               try clear c40
               try clear c40b0
               try clear c40b1
               try clear c45
               try clear c45b0
               try clear c45b1
               try clear c48
               try clear c49 d49_0 d49_1 d49_2 d49_3
               try clear c51
               try clear c51b0
               try clear c51b1
               try clear d18_0 d18_1 d18_2 d18_3
               try clear d24_0 d24_1 d24_2 d24_3
               try clear d29_0 d29_1 d29_2 d29_3
               try clear d34_0 d34_1 d34_2 d34_3
               try clear d39_0 d39_1 d39_2 d39_3
               try clear d44_0 d44_1 d44_2 d44_3
               try clear e18_0 e18_1 e18_2 e18_3
               try clear e24_0 e24_1 e24_2 e24_3
               try clear e29_0 e29_1 e29_2 e29_3
               try clear e34_0 e34_1 e34_2 e34_3
               try clear e39_0 e39_1 e39_2 e39_3
               try clear e44_0 e44_1 e44_2 e44_3
               try clear e49_0 e49_1 e49_2 e49_3
               obtain ⟨kq, x46_49, rfl, HA, HJ49, BK200, HB⟩ := hcut
               cases kq with
               | zero => exact absurd HA.out (by simp [zan.j2])
               | succ kj49 =>
                have H := HA.out
                clear HA
                simp only [zan.j2] at H
                by_cases c52 : x46_49 = true
                ·subst c52
                 have H1 : (some (([] : List Int), 6, false, true)) = some (r1, r2, r3, r4) := by rw [if_pos rfl] at H; exact H
                 clear H
                 have H := H1
                 clear H1
                 simp only [Option.some.injEq, Prod.mk.injEq] at H
                 obtain ⟨rfl, rfl, rfl, rfl⟩ := H
                 obtain ⟨d53_0, d53_1, d53_2, d53_3⟩ := cq4 BK200.out
                 obtain ⟨e53_0, e53_1, e53_2, e53_3⟩ := fq4 BK200.out
                 go_wp2
                 refine bodyPost_ret (results_cell_row rfl _ _ gb200 72 #[.slice none 0 0, .int .i64 6, .bool false, .bool true] (0, 0) _ rfl (by (with_reducible repeat (first | refine zai ?_ _ | refine zak ?_ | refine zaj ?_ _)); refine pq4 (.slice none 0 0) (.int .i64 0) (.bool false) (.bool false) ?_; (with_reducible repeat (first | refine zai ?_ _ | refine zak ?_ | refine zaj ?_ _)); exact BK200.out) Tryd.underlying72 rfl (by kernel_rfl)) rfl ?_
                 exact ⟨_, by first | rfl | (simp [zam, zal] <;> rfl) | (simp [*, zam, zal] <;> rfl), by first | exact Kd.R_nil _ _ _ _ _ | exact Kd.N_nil _ _ _ _ _ | exact Kd.V_nil _ _ _ _ _ | exact Kd.Q_nil _ _ _ _ _ | exact Kd.S_nil _ _ _ _ _, by repeat with_reducible first | exact HB.out | apply zad | apply zaa | apply zac | refine zag ?_ GE200.out⟩
                ·replace c52 := Bool.eq_false_iff.mpr c52
                 subst c52
                 have H1 : (if ((t201 ++ (⟨#[32]⟩ : ByteArray)) ++ t202).toList = ([99, 111, 117, 110, 116, 32, 97, 100, 100] : List UInt8) then (some ((([5] : List Int)), (-1), false, true)) else (if ((t201 ++ (⟨#[32]⟩ : ByteArray)) ++ t202).toList = ([99, 111, 117, 110, 116, 32, 114, 101, 97, 100] : List UInt8) then (some (([] : List Int), 5, false, true)) else (if ((t201 ++ (⟨#[32]⟩ : ByteArray)) ++ t202).toList = ([109, 97, 120, 32, 119, 114, 105, 116, 101] : List UInt8) then (zan.j3 kj49 ((t201 ++ (⟨#[32]⟩ : ByteArray)) ++ t202) (((t201 ++ (⟨#[32]⟩ : ByteArray)) ++ t202).toList == ([109, 97, 120, 32, 119, 114, 105, 116, 101] : List UInt8))) else (zan.j3 kj49 ((t201 ++ (⟨#[32]⟩ : ByteArray)) ++ t202) (((t201 ++ (⟨#[32]⟩ : ByteArray)) ++ t202).toList == ([111, 109, 97, 112, 32, 100, 101, 108] : List UInt8)))))) = some (r1, r2, r3, r4) := by rw [if_neg (show ¬ (false = true) by decide)] at H; exact H
                 clear H
                 have H := H1
                 clear H1
                 by_cases c54 : ((t201 ++ (⟨#[32]⟩ : ByteArray)) ++ t202).toList = ([99, 111, 117, 110, 116, 32, 97, 100, 100] : List UInt8)
                 ·rw [if_pos c54] at H
                  have c54b0 : (((t201 ++ (⟨#[32]⟩ : ByteArray)) ++ t202).toList == ([99, 111, 117, 110, 116, 32, 97, 100, 100] : List UInt8)) = true := beq_iff_eq.mpr c54
                  have c54b1 : (((t201 ++ (⟨#[32]⟩ : ByteArray)) ++ t202).toList != ([99, 111, 117, 110, 116, 32, 97, 100, 100] : List UInt8)) = false := bne_eq_false_iff_eq.mpr c54
                  clear c54
                  obtain ⟨y221, hy221⟩ : ∃ y_ : List Int, y_ = (([5] : List Int)) := ⟨_, rfl⟩
                  replace H : (some (y221, (-1), false, true)) = some (r1, r2, r3, r4) := by first | (rw [hy221]; with_reducible exact H) | (have H2_ := (Option.bind_some _ _).symm.trans H; rw [hy221]; with_reducible exact H2_) | (have H2_ := (Option.bind_some _ _).symm.trans H; with_reducible exact H2_) | with_reducible exact H | (rw [hy221]; exact H) | exact H
                  have Ny221 := zae.mk hy221
                  clear hy221
                  simp only [Option.some.injEq, Prod.mk.injEq] at H
                  obtain ⟨rfl, rfl, rfl, rfl⟩ := H
                  go_wp2_with (first | ((with_reducible refine za8 (N := 52) rfl ?_); refine Kd.R_lit (Kd.int .i64) _ 3 ?hg (N := 52) ?hd (xs := ([5] : List Int)) (inner := [.int .i64 5]) (ok := fun _ => True) (okp := fun _ => True) ?hr ?hp (fun _ hk => hk) trivial (Below.refl _ _) (Nat.le_refl _) (by simp) ?_; (case hd => rfl); (case hg => rfl); (case hr => first | (go_simp; done) | (go_simp; rfl)); (case hp => exact (Reps.one (show Kd.M (Kd.int .i64) _ _ _ 5 [.int .i64 5] from rfl) (Reps.none _ _))); intro v222 w55 ho56 hb hg_ hnew_; clear hg_ hnew_; (first | rw [← Ny221.out] at ho56 | (simp only [Int.reduceToNat] at ho56; rw [← Ny221.out] at ho56)); have n0_ := zae.mk (Kd.zcd ho56 (zav (by repeat with_reducible first | exact HB.out | apply zad | apply zaa | apply zac | refine zag ?_ GE200.out))); have n1_ := zae.mk (zau (g := gb200) (o := .cells #[.slice none 0 0, .int .i64 0, .bool false, .bool false] 72 (0, 0)) (by (with_reducible repeat (first | refine zai ?_ _ | refine zak ?_ | refine zaj ?_ _)); exact BK200.out) hb); have n2_ := zae.mk (zaq (by repeat with_reducible first | exact HB.out | apply zad | apply zaa | apply zac | refine zag ?_ GE200.out) hb); clear BK200; clear HB; have HO223 := n0_; have BK200 := n1_; have HB := n2_; clear n0_ n1_ n2_; clear hb ho56; obtain ⟨Ao57, co57, eo57⟩ := Kd.zch HO223.out; subst eo57; obtain ⟨d58_0, d58_1, d58_2, d58_3⟩ := cq4 BK200.out; obtain ⟨e58_0, e58_1, e58_2, e58_3⟩ := fq4 BK200.out))
                  refine bodyPost_ret (results_cell_row rfl _ _ gb200 72 #[.slice Ao57 y221.length co57, .int .i64 (-1), .bool false, .bool true] (0, 0) _ rfl (by (with_reducible repeat (first | refine zai ?_ _ | refine zak ?_ | refine zaj ?_ _)); refine pq4 (.slice none 0 0) (.int .i64 0) (.bool false) (.bool false) ?_; (with_reducible repeat (first | refine zai ?_ _ | refine zak ?_ | refine zaj ?_ _)); exact BK200.out) Tryd.underlying72 rfl (by kernel_rfl)) rfl ?_
                  exact ⟨_, by first | rfl | (simp [zam, zal] <;> rfl) | (simp [*, zam, zal] <;> rfl), by (with_reducible repeat (first | apply Kd.R_alloc | apply Kd.zbm | apply Kd.zbs)); exact Kd.zcb (Kd.R_far (p := ⟨gb200, 3, none⟩) (Kd.R_far (p := ⟨gb200, 2, none⟩) (Kd.R_far (p := ⟨gb200, 1, none⟩) (Kd.R_far (p := ⟨gb200, 0, none⟩) (Kd.zck HO223.out BK200.out (by decide)) (fun _ hk => hk.2) (.slice Ao57 y221.length co57)) (fun _ hk => hk.2) (.int .i64 (-1))) (fun _ hk => hk.2) (.bool false)) (fun _ hk => hk.2) (.bool true)) (fun _ hk => trivial), by repeat with_reducible first | exact HB.out | apply zad | apply zaa | apply zac | refine zag ?_ GE200.out⟩
                 ·rw [if_neg c54] at H
                  have c54b0 : (((t201 ++ (⟨#[32]⟩ : ByteArray)) ++ t202).toList == ([99, 111, 117, 110, 116, 32, 97, 100, 100] : List UInt8)) = false := beq_eq_false_iff_ne.mpr c54
                  have c54b1 : (((t201 ++ (⟨#[32]⟩ : ByteArray)) ++ t202).toList != ([99, 111, 117, 110, 116, 32, 97, 100, 100] : List UInt8)) = true := bne_iff_ne.mpr c54
                  by_cases c59 : ((t201 ++ (⟨#[32]⟩ : ByteArray)) ++ t202).toList = ([99, 111, 117, 110, 116, 32, 114, 101, 97, 100] : List UInt8)
                  ·rw [if_pos c59] at H
                   have c59b0 : (((t201 ++ (⟨#[32]⟩ : ByteArray)) ++ t202).toList == ([99, 111, 117, 110, 116, 32, 114, 101, 97, 100] : List UInt8)) = true := beq_iff_eq.mpr c59
                   have c59b1 : (((t201 ++ (⟨#[32]⟩ : ByteArray)) ++ t202).toList != ([99, 111, 117, 110, 116, 32, 114, 101, 97, 100] : List UInt8)) = false := bne_eq_false_iff_eq.mpr c59
                   clear c59
                   simp only [Option.some.injEq, Prod.mk.injEq] at H
                   obtain ⟨rfl, rfl, rfl, rfl⟩ := H
                   obtain ⟨d60_0, d60_1, d60_2, d60_3⟩ := cq4 BK200.out
                   obtain ⟨e60_0, e60_1, e60_2, e60_3⟩ := fq4 BK200.out
                   go_wp2
                   refine bodyPost_ret (results_cell_row rfl _ _ gb200 72 #[.slice none 0 0, .int .i64 5, .bool false, .bool true] (0, 0) _ rfl (by (with_reducible repeat (first | refine zai ?_ _ | refine zak ?_ | refine zaj ?_ _)); refine pq4 (.slice none 0 0) (.int .i64 0) (.bool false) (.bool false) ?_; (with_reducible repeat (first | refine zai ?_ _ | refine zak ?_ | refine zaj ?_ _)); exact BK200.out) Tryd.underlying72 rfl (by kernel_rfl)) rfl ?_
                   exact ⟨_, by first | rfl | (simp [zam, zal] <;> rfl) | (simp [*, zam, zal] <;> rfl), by first | exact Kd.R_nil _ _ _ _ _ | exact Kd.N_nil _ _ _ _ _ | exact Kd.V_nil _ _ _ _ _ | exact Kd.Q_nil _ _ _ _ _ | exact Kd.S_nil _ _ _ _ _, by repeat with_reducible first | exact HB.out | apply zad | apply zaa | apply zac | refine zag ?_ GE200.out⟩
                  ·rw [if_neg c59] at H
                   have c59b0 : (((t201 ++ (⟨#[32]⟩ : ByteArray)) ++ t202).toList == ([99, 111, 117, 110, 116, 32, 114, 101, 97, 100] : List UInt8)) = false := beq_eq_false_iff_ne.mpr c59
                   have c59b1 : (((t201 ++ (⟨#[32]⟩ : ByteArray)) ++ t202).toList != ([99, 111, 117, 110, 116, 32, 114, 101, 97, 100] : List UInt8)) = true := bne_iff_ne.mpr c59
                   have HC61 := zae.mk H
                   clear H
                   go_upto_if 57 with (fail)
                   go_cut [57] (fun v57 wc => ∃ (kq : Nat) (x57_60 : Bool), v57 = .bool x57_60 ∧ zae (zan.j3 kq ((t201 ++ (⟨#[32]⟩ : ByteArray)) ++ t202) x57_60 = some (r1, r2, r3, r4)) ∧ zae (kq ≤ kj49) ∧ zae (wc.heap[gb200]? = some (.cells #[(.slice none 0 0), .int .i64 0, .bool false, .bool false] 72 (0, 0))) ∧ zae (Below w.heap.size w wc))
                   case first =>
                    have H := HC61.out
                    clear HC61
                    by_cases c62 : ((t201 ++ (⟨#[32]⟩ : ByteArray)) ++ t202).toList = ([109, 97, 120, 32, 119, 114, 105, 116, 101] : List UInt8)
                    ·rw [if_pos c62] at H
                     have c62b0 : (((t201 ++ (⟨#[32]⟩ : ByteArray)) ++ t202).toList == ([109, 97, 120, 32, 119, 114, 105, 116, 101] : List UInt8)) = true := beq_iff_eq.mpr c62
                     have c62b1 : (((t201 ++ (⟨#[32]⟩ : ByteArray)) ++ t202).toList != ([109, 97, 120, 32, 119, 114, 105, 116, 101] : List UInt8)) = false := bne_eq_false_iff_eq.mpr c62
                     clear c62
                     (first | rw [c62b0] | (simp only [i64_w]; rw [c62b0]) | skip)
                     have H' := zae.mk H
                     clear H
                     go_wp2
                     go_meet
                     case rel => exact ⟨_, ((((t201 ++ (⟨#[32]⟩ : ByteArray)) ++ t202).toList == ([109, 97, 120, 32, 119, 114, 105, 116, 101] : List UInt8))), (by first | rfl | (simp; done) | (simp [*]; done)), H', ⟨by have := HJ6.out; have := HJ18.out; have := HJ49.out; first | omega | exact Nat.le_refl _⟩, ⟨by (with_reducible repeat (first | refine zai ?_ _ | refine zak ?_ | refine zaj ?_ _)); exact BK200.out⟩, ⟨by repeat with_reducible first | exact HB.out | apply zad | apply zaa | apply zac | refine zag ?_ GE200.out⟩⟩
                    ·rw [if_neg c62] at H
                     have c62b0 : (((t201 ++ (⟨#[32]⟩ : ByteArray)) ++ t202).toList == ([109, 97, 120, 32, 119, 114, 105, 116, 101] : List UInt8)) = false := beq_eq_false_iff_ne.mpr c62
                     have c62b1 : (((t201 ++ (⟨#[32]⟩ : ByteArray)) ++ t202).toList != ([109, 97, 120, 32, 119, 114, 105, 116, 101] : List UInt8)) = true := bne_iff_ne.mpr c62
                     (first | rw [c62b0] | (simp only [i64_w]; rw [c62b0]) | skip)
                     have H' := zae.mk H
                     clear H
                     go_wp2
                     go_meet
                     case rel => exact ⟨_, ((((t201 ++ (⟨#[32]⟩ : ByteArray)) ++ t202).toList == ([111, 109, 97, 112, 32, 100, 101, 108] : List UInt8))), (by first | rfl | (simp; done) | (simp [*]; done)), H', ⟨by have := HJ6.out; have := HJ18.out; have := HJ49.out; first | omega | exact Nat.le_refl _⟩, ⟨by (with_reducible repeat (first | refine zai ?_ _ | refine zak ?_ | refine zaj ?_ _)); exact BK200.out⟩, ⟨by repeat with_reducible first | exact HB.out | apply zad | apply zaa | apply zac | refine zag ?_ GE200.out⟩⟩
                   case rest =>
                    clear HC61
                    try clear c1
                    try clear c2
                    try clear p2 p2
                    try clear c3
                    try clear c4
                    try clear c4b0
                    try clear c4b1
                    try clear c4b2
                    try clear c5
                    try clear c6
                    try clear c6b0
                    try clear c6b1
                    try clear c6b2
                    try clear c9
                    try clear c9b0
                    try clear c9b1
                    try clear c10
                    try clear c10b0
                    try clear c10b1
                    try clear c11
                    try clear c11b0
                    try clear c11b1
                    try clear c12
                    try clear c12b0
                    try clear c12b1
                    try clear c13
                    try clear c13b0
                    try clear c13b1
                    try clear c14
                    try clear c20
                    try clear c20b0
                    try clear c20b1
                    try clear c21
                    try clear c21b0
                    try clear c21b1
                    try clear c22
                    try clear c22b0
                    try clear c22b1
                    try clear c23
                    try clear c25
                    try clear c25b0
                    try clear c25b1
                    try clear c30
                    try clear c30b0
                    try clear c30b1
                    try clear c35
                    try clear c35b0
                    try clear c35b1
                    try clear c38
                    try clear c40
                    try clear c40b0
                    try clear c40b1
                    try clear c45
                    try clear c45b0
                    try clear c45b1
                    try clear c48
                    try clear c49 d49_0 d49_1 d49_2 d49_3
                    try clear c51
                    try clear c51b0
                    try clear c51b1
                    try clear c52
                    try clear c54
                    try clear c54b0
                    try clear c54b1
                    try clear c59
                    try clear c59b0
                    try clear c59b1
                    try clear c62
                    try clear c62b0
                    try clear c62b1
                    try clear d18_0 d18_1 d18_2 d18_3
                    try clear d24_0 d24_1 d24_2 d24_3
                    try clear d29_0 d29_1 d29_2 d29_3
                    try clear d34_0 d34_1 d34_2 d34_3
                    try clear d39_0 d39_1 d39_2 d39_3
                    try clear d44_0 d44_1 d44_2 d44_3
                    try clear d53_0 d53_1 d53_2 d53_3
                    try clear d58_0 d58_1 d58_2 d58_3
                    try clear d60_0 d60_1 d60_2 d60_3
                    try clear e18_0 e18_1 e18_2 e18_3
                    try clear e24_0 e24_1 e24_2 e24_3
                    try clear e29_0 e29_1 e29_2 e29_3
                    try clear e34_0 e34_1 e34_2 e34_3
                    try clear e39_0 e39_1 e39_2 e39_3
                    try clear e44_0 e44_1 e44_2 e44_3
                    try clear e49_0 e49_1 e49_2 e49_3
                    try clear e53_0 e53_1 e53_2 e53_3
                    try clear e58_0 e58_1 e58_2 e58_3
                    try clear e60_0 e60_1 e60_2 e60_3
                    obtain ⟨kq, x57_60, rfl, HA, HJ60, BK200, HB⟩ := hcut
                    cases kq with
                    | zero => exact absurd HA.out (by simp [zan.j3])
                    | succ kj60 =>
                     have H := HA.out
                     clear HA
                     simp only [zan.j3] at H
                     by_cases c63 : x57_60 = true
                     ·subst c63
                      have H1 : (some ((([4] : List Int)), (-1), false, true)) = some (r1, r2, r3, r4) := by rw [if_pos rfl] at H; exact H
                      clear H
                      have H := H1
                      clear H1
                      obtain ⟨y224, hy224⟩ : ∃ y_ : List Int, y_ = (([4] : List Int)) := ⟨_, rfl⟩
                      replace H : (some (y224, (-1), false, true)) = some (r1, r2, r3, r4) := by first | (rw [hy224]; with_reducible exact H) | (have H2_ := (Option.bind_some _ _).symm.trans H; rw [hy224]; with_reducible exact H2_) | (have H2_ := (Option.bind_some _ _).symm.trans H; with_reducible exact H2_) | with_reducible exact H | (rw [hy224]; exact H) | exact H
                      have Ny224 := zae.mk hy224
                      clear hy224
                      simp only [Option.some.injEq, Prod.mk.injEq] at H
                      obtain ⟨rfl, rfl, rfl, rfl⟩ := H
                      go_wp2_with (first | ((with_reducible refine za8 (N := 60) rfl ?_); refine Kd.R_lit (Kd.int .i64) _ 3 ?hg (N := 60) ?hd (xs := ([4] : List Int)) (inner := [.int .i64 4]) (ok := fun _ => True) (okp := fun _ => True) ?hr ?hp (fun _ hk => hk) trivial (Below.refl _ _) (Nat.le_refl _) (by simp) ?_; (case hd => rfl); (case hg => rfl); (case hr => first | (go_simp; done) | (go_simp; rfl)); (case hp => exact (Reps.one (show Kd.M (Kd.int .i64) _ _ _ 4 [.int .i64 4] from rfl) (Reps.none _ _))); intro v225 w64 ho65 hb hg_ hnew_; clear hg_ hnew_; (first | rw [← Ny224.out] at ho65 | (simp only [Int.reduceToNat] at ho65; rw [← Ny224.out] at ho65)); have n0_ := zae.mk (Kd.zcd ho65 (zav (by repeat with_reducible first | exact HB.out | apply zad | apply zaa | apply zac | refine zag ?_ GE200.out))); have n1_ := zae.mk (zau (g := gb200) (o := .cells #[.slice none 0 0, .int .i64 0, .bool false, .bool false] 72 (0, 0)) (by (with_reducible repeat (first | refine zai ?_ _ | refine zak ?_ | refine zaj ?_ _)); exact BK200.out) hb); have n2_ := zae.mk (zaq (by repeat with_reducible first | exact HB.out | apply zad | apply zaa | apply zac | refine zag ?_ GE200.out) hb); clear BK200; clear HB; have HO226 := n0_; have BK200 := n1_; have HB := n2_; clear n0_ n1_ n2_; clear hb ho65; obtain ⟨Ao66, co66, eo66⟩ := Kd.zch HO226.out; subst eo66; obtain ⟨d67_0, d67_1, d67_2, d67_3⟩ := cq4 BK200.out; obtain ⟨e67_0, e67_1, e67_2, e67_3⟩ := fq4 BK200.out))
                      refine bodyPost_ret (results_cell_row rfl _ _ gb200 72 #[.slice Ao66 y224.length co66, .int .i64 (-1), .bool false, .bool true] (0, 0) _ rfl (by (with_reducible repeat (first | refine zai ?_ _ | refine zak ?_ | refine zaj ?_ _)); refine pq4 (.slice none 0 0) (.int .i64 0) (.bool false) (.bool false) ?_; (with_reducible repeat (first | refine zai ?_ _ | refine zak ?_ | refine zaj ?_ _)); exact BK200.out) Tryd.underlying72 rfl (by kernel_rfl)) rfl ?_
                      exact ⟨_, by first | rfl | (simp [zam, zal] <;> rfl) | (simp [*, zam, zal] <;> rfl), by (with_reducible repeat (first | apply Kd.R_alloc | apply Kd.zbm | apply Kd.zbs)); exact Kd.zcb (Kd.R_far (p := ⟨gb200, 3, none⟩) (Kd.R_far (p := ⟨gb200, 2, none⟩) (Kd.R_far (p := ⟨gb200, 1, none⟩) (Kd.R_far (p := ⟨gb200, 0, none⟩) (Kd.zck HO226.out BK200.out (by decide)) (fun _ hk => hk.2) (.slice Ao66 y224.length co66)) (fun _ hk => hk.2) (.int .i64 (-1))) (fun _ hk => hk.2) (.bool false)) (fun _ hk => hk.2) (.bool true)) (fun _ hk => trivial), by repeat with_reducible first | exact HB.out | apply zad | apply zaa | apply zac | refine zag ?_ GE200.out⟩
                     ·replace c63 := Bool.eq_false_iff.mpr c63
                      subst c63
                      have H1 : (if ((t201 ++ (⟨#[32]⟩ : ByteArray)) ++ t202).toList = ([109, 97, 120, 32, 114, 101, 97, 100] : List UInt8) then (some (([] : List Int), 4, true, true)) else (if ((t201 ++ (⟨#[32]⟩ : ByteArray)) ++ t202).toList = ([111, 109, 97, 112, 32, 112, 117, 116] : List UInt8) then (some ((([4, 2] : List Int)), (-1), false, true)) else (if ((t201 ++ (⟨#[32]⟩ : ByteArray)) ++ t202).toList = ([111, 109, 97, 112, 32, 115, 99, 97, 110] : List UInt8) then (some ((([4, 4] : List Int)), 99, false, true)) else (some (([] : List Int), 0, false, false))))) = some (r1, r2, r3, r4) := by rw [if_neg (show ¬ (false = true) by decide)] at H; exact H
                      clear H
                      have H := H1
                      clear H1
                      by_cases c68 : ((t201 ++ (⟨#[32]⟩ : ByteArray)) ++ t202).toList = ([109, 97, 120, 32, 114, 101, 97, 100] : List UInt8)
                      ·rw [if_pos c68] at H
                       have c68b0 : (((t201 ++ (⟨#[32]⟩ : ByteArray)) ++ t202).toList == ([109, 97, 120, 32, 114, 101, 97, 100] : List UInt8)) = true := beq_iff_eq.mpr c68
                       have c68b1 : (((t201 ++ (⟨#[32]⟩ : ByteArray)) ++ t202).toList != ([109, 97, 120, 32, 114, 101, 97, 100] : List UInt8)) = false := bne_eq_false_iff_eq.mpr c68
                       clear c68
                       simp only [Option.some.injEq, Prod.mk.injEq] at H
                       obtain ⟨rfl, rfl, rfl, rfl⟩ := H
                       obtain ⟨d69_0, d69_1, d69_2, d69_3⟩ := cq4 BK200.out
                       obtain ⟨e69_0, e69_1, e69_2, e69_3⟩ := fq4 BK200.out
                       go_wp2
                       refine bodyPost_ret (results_cell_row rfl _ _ gb200 72 #[.slice none 0 0, .int .i64 4, .bool true, .bool true] (0, 0) _ rfl (by (with_reducible repeat (first | refine zai ?_ _ | refine zak ?_ | refine zaj ?_ _)); refine pq4 (.slice none 0 0) (.int .i64 0) (.bool false) (.bool false) ?_; (with_reducible repeat (first | refine zai ?_ _ | refine zak ?_ | refine zaj ?_ _)); exact BK200.out) Tryd.underlying72 rfl (by kernel_rfl)) rfl ?_
                       exact ⟨_, by first | rfl | (simp [zam, zal] <;> rfl) | (simp [*, zam, zal] <;> rfl), by first | exact Kd.R_nil _ _ _ _ _ | exact Kd.N_nil _ _ _ _ _ | exact Kd.V_nil _ _ _ _ _ | exact Kd.Q_nil _ _ _ _ _ | exact Kd.S_nil _ _ _ _ _, by repeat with_reducible first | exact HB.out | apply zad | apply zaa | apply zac | refine zag ?_ GE200.out⟩
                      ·rw [if_neg c68] at H
                       have c68b0 : (((t201 ++ (⟨#[32]⟩ : ByteArray)) ++ t202).toList == ([109, 97, 120, 32, 114, 101, 97, 100] : List UInt8)) = false := beq_eq_false_iff_ne.mpr c68
                       have c68b1 : (((t201 ++ (⟨#[32]⟩ : ByteArray)) ++ t202).toList != ([109, 97, 120, 32, 114, 101, 97, 100] : List UInt8)) = true := bne_iff_ne.mpr c68
                       by_cases c70 : ((t201 ++ (⟨#[32]⟩ : ByteArray)) ++ t202).toList = ([111, 109, 97, 112, 32, 112, 117, 116] : List UInt8)
                       ·rw [if_pos c70] at H
                        have c70b0 : (((t201 ++ (⟨#[32]⟩ : ByteArray)) ++ t202).toList == ([111, 109, 97, 112, 32, 112, 117, 116] : List UInt8)) = true := beq_iff_eq.mpr c70
                        have c70b1 : (((t201 ++ (⟨#[32]⟩ : ByteArray)) ++ t202).toList != ([111, 109, 97, 112, 32, 112, 117, 116] : List UInt8)) = false := bne_eq_false_iff_eq.mpr c70
                        clear c70
                        obtain ⟨y227, hy227⟩ : ∃ y_ : List Int, y_ = (([4, 2] : List Int)) := ⟨_, rfl⟩
                        replace H : (some (y227, (-1), false, true)) = some (r1, r2, r3, r4) := by first | (rw [hy227]; with_reducible exact H) | (have H2_ := (Option.bind_some _ _).symm.trans H; rw [hy227]; with_reducible exact H2_) | (have H2_ := (Option.bind_some _ _).symm.trans H; with_reducible exact H2_) | with_reducible exact H | (rw [hy227]; exact H) | exact H
                        have Ny227 := zae.mk hy227
                        clear hy227
                        simp only [Option.some.injEq, Prod.mk.injEq] at H
                        obtain ⟨rfl, rfl, rfl, rfl⟩ := H
                        go_wp2_with (first | ((with_reducible refine za8 (N := 67) rfl ?_); refine Kd.R_lit (Kd.int .i64) _ 3 ?hg (N := 67) ?hd (xs := ([4, 2] : List Int)) (inner := [.int .i64 4, .int .i64 2]) (ok := fun _ => True) (okp := fun _ => True) ?hr ?hp (fun _ hk => hk) trivial (Below.refl _ _) (Nat.le_refl _) (by simp) ?_; (case hd => rfl); (case hg => rfl); (case hr => first | (go_simp; done) | (go_simp; rfl)); (case hp => exact (Reps.one (show Kd.M (Kd.int .i64) _ _ _ 4 [.int .i64 4] from rfl) (Reps.one (show Kd.M (Kd.int .i64) _ _ _ 2 [.int .i64 2] from rfl) (Reps.none _ _)))); intro v228 w71 ho72 hb hg_ hnew_; clear hg_ hnew_; (first | rw [← Ny227.out] at ho72 | (simp only [Int.reduceToNat] at ho72; rw [← Ny227.out] at ho72)); have n0_ := zae.mk (Kd.zcd ho72 (zav (by repeat with_reducible first | exact HB.out | apply zad | apply zaa | apply zac | refine zag ?_ GE200.out))); have n1_ := zae.mk (zau (g := gb200) (o := .cells #[.slice none 0 0, .int .i64 0, .bool false, .bool false] 72 (0, 0)) (by (with_reducible repeat (first | refine zai ?_ _ | refine zak ?_ | refine zaj ?_ _)); exact BK200.out) hb); have n2_ := zae.mk (zaq (by repeat with_reducible first | exact HB.out | apply zad | apply zaa | apply zac | refine zag ?_ GE200.out) hb); clear BK200; clear HB; have HO229 := n0_; have BK200 := n1_; have HB := n2_; clear n0_ n1_ n2_; clear hb ho72; obtain ⟨Ao73, co73, eo73⟩ := Kd.zch HO229.out; subst eo73; obtain ⟨d74_0, d74_1, d74_2, d74_3⟩ := cq4 BK200.out; obtain ⟨e74_0, e74_1, e74_2, e74_3⟩ := fq4 BK200.out))
                        refine bodyPost_ret (results_cell_row rfl _ _ gb200 72 #[.slice Ao73 y227.length co73, .int .i64 (-1), .bool false, .bool true] (0, 0) _ rfl (by (with_reducible repeat (first | refine zai ?_ _ | refine zak ?_ | refine zaj ?_ _)); refine pq4 (.slice none 0 0) (.int .i64 0) (.bool false) (.bool false) ?_; (with_reducible repeat (first | refine zai ?_ _ | refine zak ?_ | refine zaj ?_ _)); exact BK200.out) Tryd.underlying72 rfl (by kernel_rfl)) rfl ?_
                        exact ⟨_, by first | rfl | (simp [zam, zal] <;> rfl) | (simp [*, zam, zal] <;> rfl), by (with_reducible repeat (first | apply Kd.R_alloc | apply Kd.zbm | apply Kd.zbs)); exact Kd.zcb (Kd.R_far (p := ⟨gb200, 3, none⟩) (Kd.R_far (p := ⟨gb200, 2, none⟩) (Kd.R_far (p := ⟨gb200, 1, none⟩) (Kd.R_far (p := ⟨gb200, 0, none⟩) (Kd.zck HO229.out BK200.out (by decide)) (fun _ hk => hk.2) (.slice Ao73 y227.length co73)) (fun _ hk => hk.2) (.int .i64 (-1))) (fun _ hk => hk.2) (.bool false)) (fun _ hk => hk.2) (.bool true)) (fun _ hk => trivial), by repeat with_reducible first | exact HB.out | apply zad | apply zaa | apply zac | refine zag ?_ GE200.out⟩
                       ·rw [if_neg c70] at H
                        have c70b0 : (((t201 ++ (⟨#[32]⟩ : ByteArray)) ++ t202).toList == ([111, 109, 97, 112, 32, 112, 117, 116] : List UInt8)) = false := beq_eq_false_iff_ne.mpr c70
                        have c70b1 : (((t201 ++ (⟨#[32]⟩ : ByteArray)) ++ t202).toList != ([111, 109, 97, 112, 32, 112, 117, 116] : List UInt8)) = true := bne_iff_ne.mpr c70
                        by_cases c75 : ((t201 ++ (⟨#[32]⟩ : ByteArray)) ++ t202).toList = ([111, 109, 97, 112, 32, 115, 99, 97, 110] : List UInt8)
                        ·rw [if_pos c75] at H
                         have c75b0 : (((t201 ++ (⟨#[32]⟩ : ByteArray)) ++ t202).toList == ([111, 109, 97, 112, 32, 115, 99, 97, 110] : List UInt8)) = true := beq_iff_eq.mpr c75
                         have c75b1 : (((t201 ++ (⟨#[32]⟩ : ByteArray)) ++ t202).toList != ([111, 109, 97, 112, 32, 115, 99, 97, 110] : List UInt8)) = false := bne_eq_false_iff_eq.mpr c75
                         clear c75
                         obtain ⟨y230, hy230⟩ : ∃ y_ : List Int, y_ = (([4, 4] : List Int)) := ⟨_, rfl⟩
                         replace H : (some (y230, 99, false, true)) = some (r1, r2, r3, r4) := by first | (rw [hy230]; with_reducible exact H) | (have H2_ := (Option.bind_some _ _).symm.trans H; rw [hy230]; with_reducible exact H2_) | (have H2_ := (Option.bind_some _ _).symm.trans H; with_reducible exact H2_) | with_reducible exact H | (rw [hy230]; exact H) | exact H
                         have Ny230 := zae.mk hy230
                         clear hy230
                         simp only [Option.some.injEq, Prod.mk.injEq] at H
                         obtain ⟨rfl, rfl, rfl, rfl⟩ := H
                         go_wp2_with (first | ((with_reducible refine za8 (N := 71) rfl ?_); refine Kd.R_lit (Kd.int .i64) _ 3 ?hg (N := 71) ?hd (xs := ([4, 4] : List Int)) (inner := [.int .i64 4, .int .i64 4]) (ok := fun _ => True) (okp := fun _ => True) ?hr ?hp (fun _ hk => hk) trivial (Below.refl _ _) (Nat.le_refl _) (by simp) ?_; (case hd => rfl); (case hg => rfl); (case hr => first | (go_simp; done) | (go_simp; rfl)); (case hp => exact (Reps.one (show Kd.M (Kd.int .i64) _ _ _ 4 [.int .i64 4] from rfl) (Reps.one (show Kd.M (Kd.int .i64) _ _ _ 4 [.int .i64 4] from rfl) (Reps.none _ _)))); intro v231 w76 ho77 hb hg_ hnew_; clear hg_ hnew_; (first | rw [← Ny230.out] at ho77 | (simp only [Int.reduceToNat] at ho77; rw [← Ny230.out] at ho77)); have n0_ := zae.mk (Kd.zcd ho77 (zav (by repeat with_reducible first | exact HB.out | apply zad | apply zaa | apply zac | refine zag ?_ GE200.out))); have n1_ := zae.mk (zau (g := gb200) (o := .cells #[.slice none 0 0, .int .i64 0, .bool false, .bool false] 72 (0, 0)) (by (with_reducible repeat (first | refine zai ?_ _ | refine zak ?_ | refine zaj ?_ _)); exact BK200.out) hb); have n2_ := zae.mk (zaq (by repeat with_reducible first | exact HB.out | apply zad | apply zaa | apply zac | refine zag ?_ GE200.out) hb); clear BK200; clear HB; have HO232 := n0_; have BK200 := n1_; have HB := n2_; clear n0_ n1_ n2_; clear hb ho77; obtain ⟨Ao78, co78, eo78⟩ := Kd.zch HO232.out; subst eo78; obtain ⟨d79_0, d79_1, d79_2, d79_3⟩ := cq4 BK200.out; obtain ⟨e79_0, e79_1, e79_2, e79_3⟩ := fq4 BK200.out))
                         refine bodyPost_ret (results_cell_row rfl _ _ gb200 72 #[.slice Ao78 y230.length co78, .int .i64 99, .bool false, .bool true] (0, 0) _ rfl (by (with_reducible repeat (first | refine zai ?_ _ | refine zak ?_ | refine zaj ?_ _)); refine pq4 (.slice none 0 0) (.int .i64 0) (.bool false) (.bool false) ?_; (with_reducible repeat (first | refine zai ?_ _ | refine zak ?_ | refine zaj ?_ _)); exact BK200.out) Tryd.underlying72 rfl (by kernel_rfl)) rfl ?_
                         exact ⟨_, by first | rfl | (simp [zam, zal] <;> rfl) | (simp [*, zam, zal] <;> rfl), by (with_reducible repeat (first | apply Kd.R_alloc | apply Kd.zbm | apply Kd.zbs)); exact Kd.zcb (Kd.R_far (p := ⟨gb200, 3, none⟩) (Kd.R_far (p := ⟨gb200, 2, none⟩) (Kd.R_far (p := ⟨gb200, 1, none⟩) (Kd.R_far (p := ⟨gb200, 0, none⟩) (Kd.zck HO232.out BK200.out (by decide)) (fun _ hk => hk.2) (.slice Ao78 y230.length co78)) (fun _ hk => hk.2) (.int .i64 99)) (fun _ hk => hk.2) (.bool false)) (fun _ hk => hk.2) (.bool true)) (fun _ hk => trivial), by repeat with_reducible first | exact HB.out | apply zad | apply zaa | apply zac | refine zag ?_ GE200.out⟩
                        ·rw [if_neg c75] at H
                         have c75b0 : (((t201 ++ (⟨#[32]⟩ : ByteArray)) ++ t202).toList == ([111, 109, 97, 112, 32, 115, 99, 97, 110] : List UInt8)) = false := beq_eq_false_iff_ne.mpr c75
                         have c75b1 : (((t201 ++ (⟨#[32]⟩ : ByteArray)) ++ t202).toList != ([111, 109, 97, 112, 32, 115, 99, 97, 110] : List UInt8)) = true := bne_iff_ne.mpr c75
                         simp only [Option.some.injEq, Prod.mk.injEq] at H
                         obtain ⟨rfl, rfl, rfl, rfl⟩ := H
                         obtain ⟨d80_0, d80_1, d80_2, d80_3⟩ := cq4 BK200.out
                         obtain ⟨e80_0, e80_1, e80_2, e80_3⟩ := fq4 BK200.out
                         go_wp2
                         refine bodyPost_ret (results_cell_row rfl _ _ gb200 72 #[.slice none 0 0, .int .i64 0, .bool false, .bool false] (0, 0) _ rfl (by (with_reducible repeat (first | refine zai ?_ _ | refine zak ?_ | refine zaj ?_ _)); refine pq4 (.slice none 0 0) (.int .i64 0) (.bool false) (.bool false) ?_; (with_reducible repeat (first | refine zai ?_ _ | refine zak ?_ | refine zaj ?_ _)); exact BK200.out) Tryd.underlying72 rfl (by kernel_rfl)) rfl ?_
                         exact ⟨_, by first | rfl | (simp [zam, zal] <;> rfl) | (simp [*, zam, zal] <;> rfl), by first | exact Kd.R_nil _ _ _ _ _ | exact Kd.N_nil _ _ _ _ _ | exact Kd.V_nil _ _ _ _ _ | exact Kd.Q_nil _ _ _ _ _ | exact Kd.S_nil _ _ _ _ _, by repeat with_reducible first | exact HB.out | apply zad | apply zaa | apply zac | refine zag ?_ GE200.out⟩
  ·rw [if_neg c6] at H
   exact absurd H (by simp)
 ·rw [if_neg c4] at H
  exact absurd H (by simp)
end Go.Proofs.YtikmmigfdchcpaaDoor.PP
