/-
  Proved: a part of the proof of the claim's statement (text L1 of it).
  Conditions: none of ours.
-/
import Derived.Test.YtikmmigfdchcpaaDoorPeQ0
import Derived.Test.YtikmmigfdchcpaaDoorPeQ5
namespace Go.Proofs.YtikmmigfdchcpaaDoor.PP
open Go.RowKit Go.Proofs.YtikmmigfdchcpaaDoorW.PrintWords Go.Proofs.YtikmmigfdchcpaaDoorW.PrintLast Go.Proofs.YtikmmigfdchcpaaDoorW.PrintMore
set_option linter.unusedVariables false
set_option linter.unusedSimpArgs false
theorem toList_nil (s : ByteArray) : (s.toList == ([] : List UInt8)) = (s.size == 0) := by
 rw [ByteArray.toList_eq, Bool.eq_iff_iff]
 have h := data_length s
 constructor
 ·intro e
  rw [beq_iff_eq] at e ⊢
  rw [e] at h
  simpa using h.symm
 ·intro e
  rw [beq_iff_eq] at e ⊢
  rw [e] at h
  exact List.eq_nil_of_length_eq_zero h
theorem toList_nil' (s : ByteArray) : (s.toList = ([] : List UInt8)) ↔ s.size = 0 := by
 have := toList_nil s
 rw [Bool.eq_iff_iff, beq_iff_eq, beq_iff_eq] at this
 exact this
def allN (p : Nat → Bool) : Nat → Nat → Bool
 | 0, _ => true
 | d + 1, i => p i && allN p d (i + 1)
def chr (c : Int) : Bool := (decide (97 ≤ c) && decide (c ≤ 122)) || ((decide (48 ≤ c) && decide (c ≤ 57)) || c == 95)
theorem v_step (s : ByteArray) (k : Nat) (i : Int) (hs : s.size ≤ 9223372036854775807) (h0 : 0 ≤ i) (h1 : i < (s.size : Int)) :
  zau.l0 (k + 1) s (s.size : Int) i = if chr (bt s i) = true then zau.l0 k s (s.size : Int) (i + 1) else some false := by
 simp only [zau.l0]
 rw [if_pos h1, if_pos h0, if_pos h1, show wrap64 (i + 1) = i + 1 from by unfold wrap64; omega]
 unfold chr
 by_cases a : bt s i ≥ 97 <;> by_cases b : bt s i ≤ 122 <;> by_cases c : bt s i ≥ 48 <;> by_cases d : bt s i ≤ 57 <;> by_cases e : bt s i = 95 <;> simp [a, b, c, d, e] <;> omega
theorem v_loop (s : ByteArray) (hs : s.size ≤ 9223372036854775807) : ∀ (d i : Nat), i + d = s.size → Ev (fun k => zau.l0 k s (s.size : Int) (i : Int)) (allN (fun j => chr (bt s (j : Int))) d i)
 | 0, i, h => Ev.step (f := fun _ => some true) (fun k => by simp only [zau.l0]; rw [if_neg (by omega)]) (Ev.now _)
 | d + 1, i, h => by
  refine Ev.step (fun k => v_step s k (i : Int) hs (by omega) (by omega)) ?_
  simp only [allN]
  cases hc : chr (bt s (i : Int)) with
  | true =>
   have ih := v_loop s hs d (i + 1) (by omega)
   simpa [hc] using ih
  | false => simpa [hc] using Ev.now false
def wd (s : ByteArray) : Bool := decide (1 ≤ s.size) && (decide (s.size ≤ 40) && ((decide (97 ≤ bt s 0) && decide (bt s 0 ≤ 122)) && allN (fun j => chr (bt s (j : Int))) s.size 0))
theorem ev_word (s : ByteArray) (hs : s.size ≤ 9223372036854775807) : Ev (fun k => zau.f k s) (wd s) := by
 unfold wd
 by_cases h0 : s.size = 0
 ·rw [show decide (1 ≤ s.size) = false from decide_eq_false (by omega), Bool.false_and]
  refine Ev.congr (f := fun k => zau.j0 k s true) (fun k => by unfold zau.f; rw [if_pos ((toList_nil' s).2 h0)]) ?_
  exact Ev.step (f := fun _ => some false) (fun k => by simp only [zau.j0]; rfl) (Ev.now _)
 ·have e0 : decide (1 ≤ s.size) = true := decide_eq_true (by omega)
  rw [e0, Bool.true_and]
  by_cases h1 : s.size ≤ 40
  ·rw [decide_eq_true h1, Bool.true_and]
   have hb : ∀ b : Bool, Ev (fun k => zau.j0 k s b) (if b = true then false else allN (fun j => chr (bt s (j : Int))) s.size 0) := by
    intro b
    cases b with
    | true => exact Ev.step (f := fun _ => some false) (fun k => by simp only [zau.j0]; rfl) (Ev.now _)
    | false => exact Ev.step (f := fun k => zau.l0 k s (s.size : Int) ((0 : Nat) : Int)) (fun k => by simp only [zau.j0]; rfl) (v_loop s hs s.size 0 (by omega))
   by_cases h2 : bt s 0 < 97
   ·refine Ev.congr (f := fun k => zau.j0 k s true) (fun k => by unfold zau.f; rw [if_neg (fun e => h0 ((toList_nil' s).1 e)), if_neg (by omega), if_pos (by omega), if_pos h2]) ?_
    rw [show decide (97 ≤ bt s 0) = false from decide_eq_false (by omega)]
    exact hb true
   ·refine Ev.congr (f := fun k => zau.j0 k s (decide ((bt s 0) > 122))) (fun k => by unfold zau.f; rw [if_neg (fun e => h0 ((toList_nil' s).1 e)), if_neg (by omega), if_pos (by omega), if_neg h2]) ?_
    rw [show decide (97 ≤ bt s 0) = true from decide_eq_true (by omega), Bool.true_and]
    have := hb (decide ((bt s 0) > 122))
    by_cases h3 : bt s 0 ≤ 122
    ·rw [show decide ((bt s 0) > 122) = false from decide_eq_false (by omega)] at this ⊢
     rw [decide_eq_true h3, Bool.true_and]
     exact this
    ·rw [show decide ((bt s 0) > 122) = true from decide_eq_true (by omega)] at this ⊢
     rw [decide_eq_false h3, Bool.false_and]
     exact this
  ·rw [decide_eq_false h1, Bool.false_and]
   refine Ev.congr (f := fun k => zau.j0 k s true) (fun k => by unfold zau.f; rw [if_neg (fun e => h0 ((toList_nil' s).1 e)), if_pos (by omega)]) ?_
   exact Ev.step (f := fun _ => some false) (fun k => by simp only [zau.j0]; rfl) (Ev.now _)
def vr (x : S38) : Bool := if x.f0 = 0 then x.f1 == 0 && x.f2.size == 0 else if x.f0 = 1 then x.f2.size == 0 else if x.f0 = 2 then x.f1 == 0 && wd x.f2 else x.f0 == 3 && ((x.f1 == 1 || x.f1 == 0) && x.f2.size == 0)
theorem ev_vr (x : S38) (hs : x.f2.size ≤ 9223372036854775807) : Ev (fun k => zbj.f k x.f0 x.f1 x.f2) (vr x) := by
 unfold vr
 by_cases h0 : x.f0 = 0
 ·rw [if_pos h0]
  refine Ev.congr (f := fun _ => some (x.f1 == 0 && x.f2.size == 0)) (fun k => ?_) (Ev.now _)
  unfold zbj.f
  rw [if_pos h0, toList_nil, h0]
  rfl
 ·rw [if_neg h0]
  by_cases h1 : x.f0 = 1
  ·rw [if_pos h1]
   refine Ev.congr (f := fun _ => some (x.f2.size == 0)) (fun k => ?_) (Ev.now _)
   unfold zbj.f
   rw [if_neg h0, if_pos h1, toList_nil]
  ·rw [if_neg h1]
   by_cases h2 : x.f0 = 2
   ·rw [if_pos h2]
    by_cases h3 : x.f1 = 0
    ·rw [show (x.f1 == 0) = true from beq_iff_eq.mpr h3, Bool.true_and]
     refine Ev.congr (f := fun k => (zau.f k x.f2).bind fun t => some t) (fun k => ?_) (Ev.bind (ev_word _ hs) (Ev.now _))
     unfold zbj.f
     rw [if_neg h0, if_neg h1, if_pos h2, if_pos h3]
    ·rw [show (x.f1 == 0) = false from beq_eq_false_iff_ne.mpr h3, Bool.false_and]
     refine Ev.congr (f := fun _ => some false) (fun k => ?_) (Ev.now _)
     unfold zbj.f
     rw [if_neg h0, if_neg h1, if_pos h2, if_neg h3]
   ·rw [if_neg h2]
    refine Ev.congr (f := fun _ => some (x.f0 == 3 && ((x.f1 == 1 || x.f1 == 0) && x.f2.size == 0))) (fun k => ?_) (Ev.now _)
    unfold zbj.f
    rw [if_neg h0, if_neg h1, if_neg h2, toList_nil]
    cases (x.f0 == 3) <;> cases (x.f1 == 1) <;> cases (x.f1 == 0) <;> cases (x.f2.size == 0) <;> rfl
def nm (x : S38) : Bool := vr x && (x.f0 == 1 || x.f0 == 2)
def tk (d : Int) (x : S38) : Bool := vr x && (if 0 ≤ d ∧ d ≤ 4 then (x.f0 == 1 || x.f0 == 2) else if d = 5 then x.f0 == 1 else d == 6 && x.f0 == 3)
theorem ev_tk (d : Int) (x : S38) (hs : x.f2.size ≤ 9223372036854775807) : Ev (fun k => zas.f k d x.f0 x.f1 x.f2) (tk d x) := by
 refine Ev.bind (f := fun k t => (if t = true then (if d = 0 then (zas.j0 k d d (d == 0) x.f0 x.f1 x.f2) else (if d = 1 then (zas.j0 k d d (d == 1) x.f0 x.f1 x.f2) else (if d = 2 then (zas.j0 k d d (d == 2) x.f0 x.f1 x.f2) else (if d = 3 then (zas.j0 k d d (d == 3) x.f0 x.f1 x.f2) else (zas.j0 k d d (d == 4) x.f0 x.f1 x.f2))))) else (some false))) (ev_vr x hs) ?_
 unfold tk
 cases vr x with
 | false => simpa using Ev.now false
 | true =>
  simp only [if_true, Bool.true_and]
  by_cases hd : 0 ≤ d ∧ d ≤ 4
  ·rw [if_pos hd]
   refine Ev.congr (f := fun k => zas.j0 k d d true x.f0 x.f1 x.f2) (fun k => ?_) ?_
   ·by_cases h0 : d = 0
    ·simp [h0]
    ·by_cases h1 : d = 1
     ·simp [h1]
     ·by_cases h2 : d = 2
      ·simp [h2]
      ·by_cases h3 : d = 3
       ·simp [h3]
       ·have h4 : d = 4 := by omega
        simp [h4]
   ·refine Ev.step (f := fun _ => some (x.f0 == 1 || x.f0 == 2)) (fun k => ?_) (Ev.now _)
    simp only [zas.j0]
    by_cases h : x.f0 = 1 <;> simp [h]
  ·rw [if_neg hd]
   refine Ev.congr (f := fun k => zas.j0 k d d false x.f0 x.f1 x.f2) (fun k => ?_) ?_
   ·rw [if_neg (by omega), if_neg (by omega), if_neg (by omega), if_neg (by omega), show (d == 4) = false from beq_eq_false_iff_ne.mpr (by omega)]
   ·by_cases h5 : d = 5
    ·rw [if_pos h5]
     refine Ev.step (f := fun _ => some (x.f0 == 1)) (fun k => ?_) (Ev.now _)
     simp only [zas.j0]
     rw [if_neg (by decide), if_pos h5]
    ·rw [if_neg h5]
     refine Ev.step (f := fun _ => some (d == 6 && x.f0 == 3)) (fun k => ?_) (Ev.now _)
     simp only [zas.j0]
     rw [if_neg (by decide), if_neg h5]
     by_cases h6 : d = 6 <;> simp [h6]
end Go.Proofs.YtikmmigfdchcpaaDoor.PP
