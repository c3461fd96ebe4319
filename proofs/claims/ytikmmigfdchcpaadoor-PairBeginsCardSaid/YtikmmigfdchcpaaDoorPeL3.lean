/-
  Proved: a part of the proof of the claim's statement (text L3 of it).
  Conditions: none of ours.
-/
import Derived.Lib.IndexAny
import Derived.Test.YtikmmigfdchcpaaDoorPeQ0
import Derived.Test.YtikmmigfdchcpaaDoorPeL2
import Derived.Test.YtikmmigfdchcpaaDoorPeQ21
import Derived.Test.YtikmmigfdchcpaaDoorPeQ1
import Derived.Test.YtikmmigfdchcpaaDoorPeQ41
import Derived.Test.YtikmmigfdchcpaaDoorPeQ15
namespace Go.Proofs.YtikmmigfdchcpaaDoor.PP
open Go.RowKit Go.Proofs.YtikmmigfdchcpaaDoorW.PrintWords Go.Proofs.YtikmmigfdchcpaaDoorW.PrintLast Go.Proofs.YtikmmigfdchcpaaDoorW.PrintMore
set_option linter.unusedVariables false
set_option linter.unusedSimpArgs false
def noteB (s : ByteArray) (b : Bool) : Bool := decide (s.size ≤ 100) && (!(decide (0 ≤ Lib.indexByte s.data.toList 10)) && (b || s.size == 0))
def restB (x : S47) : Bool := x.f3 == 0 && (x.f5 == 0 && (zv x.f4 && (x.f6.length == 0 && (allN (fun j => vr (zai x.f7 (j : Int))) x.f7.length 0 && (x.f2 == 2 || ((x.f2 == 3 || x.f2 == 4) && x.f7.length == 0))))))
def rB (x : S47) : Bool := decide (0 ≤ x.f0) && (nm x.f1 && (noteB x.f9 x.f8 && (if x.f2 = 1 then argB x.f3 x.f5 x.f6 && (nm x.f4 && x.f7.length == 0) else restB x)))
def Ok47 (x : S47) : Prop := Sm x.f1 ∧ Sm x.f4 ∧ SmL x.f6 ∧ SmL x.f7 ∧ x.f6.length ≤ 4398046511103 ∧ x.f7.length ≤ 4398046511103 ∧ x.f9.size ≤ 9223372036854775807
theorem nm_tk0 (x : S38) : tk 0 x = nm x := rfl
theorem nm_tk1 (x : S38) : tk 1 x = nm x := rfl
theorem noted_eq (x : S47) : zbu.f x.f0 x.f1.f0 x.f1.f1 x.f1.f2 x.f2 x.f3 x.f4.f0 x.f4.f1 x.f4.f2 x.f5 x.f6 x.f7 x.f8 x.f9 = some (noteB x.f9 x.f8) := by
 unfold zbu.f noteB strings_Contains.f
 rw [if_pos (show (⟨#[10]⟩ : ByteArray).data.toList = [10] from rfl)]
 by_cases h : x.f9.size ≤ 100
 ·rw [if_pos (by omega), decide_eq_true h, Bool.true_and]
  simp only [Option.bind_some]
  rw [toList_nil]
  cases decide (0 ≤ Lib.indexByte x.f9.data.toList 10) <;> cases x.f8 <;> simp
 ·rw [if_neg (by omega), decide_eq_false h, Bool.false_and]
theorem out_loop (x : S47) (hx : Ok47 x) : ∀ (d i : Nat), i + d = x.f7.length →
  Ev (fun k => zar.l0 k x.f7 (x.f7.length : Int) (i : Int) x.f0 x.f1.f0 x.f1.f1 x.f1.f2 x.f2 x.f3 x.f4.f0 x.f4.f1 x.f4.f2 x.f5 x.f6 x.f7 x.f8 x.f9) (allN (fun j => vr (zai x.f7 (j : Int))) d i && (x.f2 == 2 || ((x.f2 == 3 || x.f2 == 4) && x.f7.length == 0)))
 | 0, i, h => by
  refine Ev.step (f := fun _ => some (x.f2 == 2 || ((x.f2 == 3 || x.f2 == 4) && x.f7.length == 0))) (fun k => ?_) (Ev.now _)
  simp only [zar.l0]
  rw [if_neg (by omega)]
  have e : ((x.f7.length : Int) == 0) = (x.f7.length == 0) := by rw [Bool.eq_iff_iff, beq_iff_eq, beq_iff_eq]; omega
  rw [e]
  by_cases h2 : x.f2 = 2
  ·simp [h2]
  ·by_cases h3 : x.f2 = 3
   ·simp [h3]
   ·by_cases h4 : x.f2 = 4
    ·simp [h4]
    ·simp [h2, h3, h4]
 | d + 1, i, h => by
  have ih := out_loop x hx d (i + 1) (by omega)
  have hl := hx.2.2.2.2.2.1
  refine Ev.step (f := fun k => (zbj.f k (zai x.f7 (i : Int)).f0 (zai x.f7 (i : Int)).f1 (zai x.f7 (i : Int)).f2).bind fun t => (if t = true then zar.l0 k x.f7 (x.f7.length : Int) ((i + 1 : Nat) : Int) x.f0 x.f1.f0 x.f1.f1 x.f1.f2 x.f2 x.f3 x.f4.f0 x.f4.f1 x.f4.f2 x.f5 x.f6 x.f7 x.f8 x.f9 else some false)) (fun k => ?_) (Ev.bind (ev_vr _ (hx.2.2.2.1 _ (rd38_mem (by omega)))) ?_)
  ·simp only [zar.l0]
   rw [if_pos (by omega), if_pos (by omega), if_pos (by omega), show wrap64 ((i : Int) + 1) = ((i + 1 : Nat) : Int) from by unfold wrap64; omega]
  ·simp only [allN]
   cases vr (zai x.f7 (i : Int)) with
   | true => simpa using ih
   | false => simpa using Ev.now false
theorem ev_j1 (x : S47) (hx : Ok47 x) (b : Bool) : Ev (fun k => zar.j1 k b x.f0 x.f1.f0 x.f1.f1 x.f1.f2 x.f2 x.f3 x.f4.f0 x.f4.f1 x.f4.f2 x.f5 x.f6 x.f7 x.f8 x.f9) (!b && (allN (fun j => vr (zai x.f7 (j : Int))) x.f7.length 0 && (x.f2 == 2 || ((x.f2 == 3 || x.f2 == 4) && x.f7.length == 0)))) := by
 cases b with
 | true => exact Ev.step (f := fun _ => some false) (fun k => by simp only [zar.j1]; rfl) (Ev.now _)
 | false =>
  rw [Bool.not_false, Bool.true_and]
  exact Ev.step (f := fun k => zar.l0 k x.f7 (x.f7.length : Int) ((0 : Nat) : Int) x.f0 x.f1.f0 x.f1.f1 x.f1.f2 x.f2 x.f3 x.f4.f0 x.f4.f1 x.f4.f2 x.f5 x.f6 x.f7 x.f8 x.f9) (fun k => by simp only [zar.j1]; rfl) (out_loop x hx x.f7.length 0 (by omega))
theorem zv_not (x : S38) : (!(x.f0 == 0) || (!(x.f1 == 0) || (!(x.f2.toList == ([] : List UInt8))))) = !(zv x) := by
 rw [← zv_eq]
 cases (x.f0 == 0) <;> cases (x.f1 == 0) <;> cases (x.f2.toList == ([] : List UInt8)) <;> rfl
theorem ev_j0 (x : S47) (hx : Ok47 x) (b : Bool) : Ev (fun k => zar.j0 k b x.f0 x.f1.f0 x.f1.f1 x.f1.f2 x.f2 x.f3 x.f4.f0 x.f4.f1 x.f4.f2 x.f5 x.f6 x.f7 x.f8 x.f9) (!b && (if x.f2 = 1 then argB x.f3 x.f5 x.f6 && (nm x.f4 && x.f7.length == 0) else restB x)) := by
 have e7 : ((x.f7.length : Int) == 0) = (x.f7.length == 0) := by rw [Bool.eq_iff_iff, beq_iff_eq, beq_iff_eq]; omega
 cases b with
 | true => exact Ev.step (f := fun _ => some false) (fun k => by simp only [zar.j0]; rfl) (Ev.now _)
 | false =>
  rw [Bool.not_false, Bool.true_and]
  by_cases h1 : x.f2 = 1
  ·rw [if_pos h1]
   refine Ev.step (f := fun k => (zbc.f k x.f3 x.f5).bind fun bt124 => (if bt124.2 = true then ((zas.f k 1 x.f4.f0 x.f4.f1 x.f4.f2).bind fun t128 => (if t128 = true then ((zbe.f k bt124.1 x.f6).bind fun t129 => (if t129 = true then (some ((x.f7.length : Int) == 0)) else (some false))) else (some false))) else (some false))) (fun k => ?_) (Ev.bind (ev_args _ _) ?_)
   ·simp only [zar.j0]
    rw [if_neg (by decide), if_pos h1]
   ·unfold argsOf argB
    cases fs x.f3 x.f5 with
    | none => simpa using Ev.now false
    | some t =>
     simp only [if_true]
     refine Ev.bind (ev_tk 1 x.f4 hx.2.1) ?_
     rw [nm_tk1]
     cases nm x.f4 with
     | false => simpa using Ev.now false
     | true =>
      simp only [if_true, Bool.true_and]
      refine Ev.bind (ev_fits t.1 x.f6 hx.2.2.1 (by have := hx.2.2.2.2.1; omega)) ?_
      rw [e7]
      cases fitsB t.1 x.f6 with
      | false => simpa using Ev.now false
      | true => simpa using Ev.now (x.f7.length == 0)
  ·rw [if_neg h1]
   unfold restB
   refine Ev.step (f := fun k => zar.j1 k (!(x.f3 == 0 && (x.f5 == 0 && (zv x.f4 && x.f6.length == 0)))) x.f0 x.f1.f0 x.f1.f1 x.f1.f2 x.f2 x.f3 x.f4.f0 x.f4.f1 x.f4.f2 x.f5 x.f6 x.f7 x.f8 x.f9) (fun k => ?_) ?_
   ·simp only [zar.j0]
    rw [if_neg (by decide), if_neg h1, zv_not]
    by_cases h3 : x.f3 = 0
    ·rw [if_pos h3, show (x.f3 == 0) = true from beq_iff_eq.mpr h3, Bool.true_and]
     by_cases h5 : x.f5 = 0
     ·rw [if_pos h5, show (x.f5 == 0) = true from beq_iff_eq.mpr h5, Bool.true_and]
      cases zv x.f4 with
      | false => rfl
      | true =>
       rw [if_neg (by decide), Bool.true_and]
       congr 1
       by_cases h6 : x.f6.length = 0
       ·rw [show (x.f6.length == 0) = true from beq_iff_eq.mpr h6]
        exact decide_eq_false (by omega)
       ·rw [show (x.f6.length == 0) = false from beq_eq_false_iff_ne.mpr h6]
        exact decide_eq_true (by omega)
     ·rw [if_neg h5, show (x.f5 == 0) = false from beq_eq_false_iff_ne.mpr h5, Bool.false_and]
      rfl
    ·rw [if_neg h3, show (x.f3 == 0) = false from beq_eq_false_iff_ne.mpr h3, Bool.false_and]
     rfl
   ·have h := ev_j1 x hx (!(x.f3 == 0 && (x.f5 == 0 && (zv x.f4 && x.f6.length == 0))))
    rw [Bool.not_not, Bool.and_assoc, Bool.and_assoc, Bool.and_assoc] at h
    exact h
theorem ev_right (x : S47) (hx : Ok47 x) : Ev (fun k => zar.f k x.f0 x.f1.f0 x.f1.f1 x.f1.f2 x.f2 x.f3 x.f4.f0 x.f4.f1 x.f4.f2 x.f5 x.f6 x.f7 x.f8 x.f9) (rB x) := by
 unfold rB
 by_cases h0 : 0 ≤ x.f0
 ·rw [decide_eq_true h0, Bool.true_and]
  refine Ev.congr (f := fun k => (zas.f k 0 x.f1.f0 x.f1.f1 x.f1.f2).bind fun t122 => (if t122 = true then (zar.j0 k (!(noteB x.f9 x.f8)) x.f0 x.f1.f0 x.f1.f1 x.f1.f2 x.f2 x.f3 x.f4.f0 x.f4.f1 x.f4.f2 x.f5 x.f6 x.f7 x.f8 x.f9) else (zar.j0 k true x.f0 x.f1.f0 x.f1.f1 x.f1.f2 x.f2 x.f3 x.f4.f0 x.f4.f1 x.f4.f2 x.f5 x.f6 x.f7 x.f8 x.f9))) (fun k => ?_) (Ev.bind (ev_tk 0 x.f1 hx.1) ?_)
  ·unfold zar.f
   rw [if_neg (by omega), noted_eq]
   rfl
  ·rw [nm_tk0]
   cases nm x.f1 with
   | false => simpa using ev_j0 x hx true
   | true =>
    have h := ev_j0 x hx (!(noteB x.f9 x.f8))
    rw [Bool.not_not] at h
    simpa using h
 ·rw [decide_eq_false h0, Bool.false_and]
  refine Ev.congr (f := fun k => zar.j0 k true x.f0 x.f1.f0 x.f1.f1 x.f1.f2 x.f2 x.f3 x.f4.f0 x.f4.f1 x.f4.f2 x.f5 x.f6 x.f7 x.f8 x.f9) (fun k => ?_) (ev_j0 x hx true)
  unfold zar.f
  rw [if_pos (by omega)]
end Go.Proofs.YtikmmigfdchcpaaDoor.PP
