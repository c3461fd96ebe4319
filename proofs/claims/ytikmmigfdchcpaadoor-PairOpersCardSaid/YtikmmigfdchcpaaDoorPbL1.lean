/-
  Proved: a part of the proof of the claim's statement (text L1 of it).
  Conditions: none of ours.
-/
import Derived.Test.YtikmmigfdchcpaaDoorPbQ0
import Derived.Test.YtikmmigfdchcpaaDoorPbQ5
import Derived.Test.YtikmmigfdchcpaaDoorPbQ38
import Derived.Test.YtikmmigfdchcpaaDoorPbQ42
namespace Go.Proofs.YtikmmigfdchcpaaDoor.PP
open Go.RowKit Go.Proofs.YtikmmigfdchcpaaDoorW.PrintWords Go.Proofs.YtikmmigfdchcpaaDoorW.PrintLast Go.Proofs.YtikmmigfdchcpaaDoorW.PrintMore
set_option linter.unusedVariables false
set_option linter.unusedSimpArgs false
theorem zcs (s : ByteArray) : (s.toList == ([] : List UInt8)) = (s.size == 0) := by
 rw [ByteArray.toList_eq, Bool.eq_iff_iff]
 have h := data_length s
 constructor
 ·intro e
  rw [beq_iff_eq] at e ⊢
  rw [e] at h
  simpa using h.symm
 ·intro e
  rw [beq_iff_eq] at e ⊢
  rw [e] at h
  exact List.eq_nil_of_length_eq_zero h
theorem toList_nil' (s : ByteArray) : (s.toList = ([] : List UInt8)) ↔ s.size = 0 := by
 have := zcs s
 rw [Bool.eq_iff_iff, beq_iff_eq, beq_iff_eq] at this
 exact this
def allN (p : Nat → Bool) : Nat → Nat → Bool
 | 0, _ => true
 | d + 1, i => p i && allN p d (i + 1)
theorem allN_congr {p q : Nat → Bool} : ∀ (d i : Nat), (∀ j, i ≤ j → j < i + d → p j = q j) → allN p d i = allN q d i
 | 0, _, _ => rfl
 | d + 1, i, h => by
  simp only [allN]
  rw [h i (Nat.le_refl _) (by omega), allN_congr d (i + 1) (fun j h1 h2 => h j (by omega) (by omega))]
theorem allN_true {p : Nat → Bool} : ∀ (d i : Nat), allN p d i = true ↔ ∀ j, i ≤ j → j < i + d → p j = true
 | 0, i => by simp only [allN, true_iff]; intro j h1 h2; omega
 | d + 1, i => by
  simp only [allN, Bool.and_eq_true]
  rw [allN_true d (i + 1)]
  constructor
  ·rintro ⟨h1, h2⟩ j h3 h4
   by_cases e : j = i
   ·rw [e]; exact h1
   ·exact h2 j (by omega) (by omega)
  ·intro h
   exact ⟨h i (Nat.le_refl _) (by omega), fun j h3 h4 => h j (by omega) (by omega)⟩
def chr (c : Int) : Bool := (decide (97 ≤ c) && decide (c ≤ 122)) || ((decide (48 ≤ c) && decide (c ≤ 57)) || c == 95)
theorem v_step (s : ByteArray) (k : Nat) (i : Int) (hs : s.size ≤ 9223372036854775807) (h0 : 0 ≤ i) (h1 : i < (s.size : Int)) :
  zbb.l0 (k + 1) s (s.size : Int) i = if chr (bt s i) = true then zbb.l0 k s (s.size : Int) (i + 1) else some false := by
 simp only [zbb.l0]
 rw [if_pos h1, if_pos h0, if_pos h1, show wrap64 (i + 1) = i + 1 from by unfold wrap64; omega]
 unfold chr
 by_cases a : bt s i ≥ 97 <;> by_cases b : bt s i ≤ 122 <;> by_cases c : bt s i ≥ 48 <;> by_cases d : bt s i ≤ 57 <;> by_cases e : bt s i = 95 <;> simp [a, b, c, d, e] <;> omega
theorem v_loop (s : ByteArray) (hs : s.size ≤ 9223372036854775807) : ∀ (d i : Nat), i + d = s.size → Ev (fun k => zbb.l0 k s (s.size : Int) (i : Int)) (allN (fun j => chr (bt s (j : Int))) d i)
 | 0, i, h => Ev.step (f := fun _ => some true) (fun k => by simp only [zbb.l0]; rw [if_neg (by omega)]) (Ev.now _)
 | d + 1, i, h => by
  refine Ev.step (fun k => v_step s k (i : Int) hs (by omega) (by omega)) ?_
  simp only [allN]
  cases hc : chr (bt s (i : Int)) with
  | true =>
   have ih := v_loop s hs d (i + 1) (by omega)
   simpa [hc] using ih
  | false => simpa [hc] using Ev.now false
def wd (s : ByteArray) : Bool := decide (1 ≤ s.size) && (decide (s.size ≤ 40) && ((decide (97 ≤ bt s 0) && decide (bt s 0 ≤ 122)) && allN (fun j => chr (bt s (j : Int))) s.size 0))
theorem ev_word (s : ByteArray) (hs : s.size ≤ 9223372036854775807) : Ev (fun k => zbb.f k s) (wd s) := by
 unfold wd
 by_cases h0 : s.size = 0
 ·rw [show decide (1 ≤ s.size) = false from decide_eq_false (by omega), Bool.false_and]
  refine Ev.congr (f := fun k => zbb.j0 k s true) (fun k => by unfold zbb.f; rw [if_pos ((toList_nil' s).2 h0)]) ?_
  exact Ev.step (f := fun _ => some false) (fun k => by simp only [zbb.j0]; rfl) (Ev.now _)
 ·have e0 : decide (1 ≤ s.size) = true := decide_eq_true (by omega)
  rw [e0, Bool.true_and]
  by_cases h1 : s.size ≤ 40
  ·rw [decide_eq_true h1, Bool.true_and]
   have hb : ∀ b : Bool, Ev (fun k => zbb.j0 k s b) (if b = true then false else allN (fun j => chr (bt s (j : Int))) s.size 0) := by
    intro b
    cases b with
    | true => exact Ev.step (f := fun _ => some false) (fun k => by simp only [zbb.j0]; rfl) (Ev.now _)
    | false => exact Ev.step (f := fun k => zbb.l0 k s (s.size : Int) ((0 : Nat) : Int)) (fun k => by simp only [zbb.j0]; rfl) (v_loop s hs s.size 0 (by omega))
   by_cases h2 : bt s 0 < 97
   ·refine Ev.congr (f := fun k => zbb.j0 k s true) (fun k => by unfold zbb.f; rw [if_neg (fun e => h0 ((toList_nil' s).1 e)), if_neg (by omega), if_pos (by omega), if_pos h2]) ?_
    rw [show decide (97 ≤ bt s 0) = false from decide_eq_false (by omega)]
    exact hb true
   ·refine Ev.congr (f := fun k => zbb.j0 k s (decide ((bt s 0) > 122))) (fun k => by unfold zbb.f; rw [if_neg (fun e => h0 ((toList_nil' s).1 e)), if_neg (by omega), if_pos (by omega), if_neg h2]) ?_
    rw [show decide (97 ≤ bt s 0) = true from decide_eq_true (by omega), Bool.true_and]
    have := hb (decide ((bt s 0) > 122))
    by_cases h3 : bt s 0 ≤ 122
    ·rw [show decide ((bt s 0) > 122) = false from decide_eq_false (by omega)] at this ⊢
     rw [decide_eq_true h3, Bool.true_and]
     exact this
    ·rw [show decide ((bt s 0) > 122) = true from decide_eq_true (by omega)] at this ⊢
     rw [decide_eq_false h3, Bool.false_and]
     exact this
  ·rw [decide_eq_false h1, Bool.false_and]
   refine Ev.congr (f := fun k => zbb.j0 k s true) (fun k => by unfold zbb.f; rw [if_neg (fun e => h0 ((toList_nil' s).1 e)), if_pos (by omega)]) ?_
   exact Ev.step (f := fun _ => some false) (fun k => by simp only [zbb.j0]; rfl) (Ev.now _)
def letB (c : Int) (first : Bool) : Bool := (decide (97 ≤ c) && decide (c ≤ 122)) || (!first && (c == 95 || (decide (48 ≤ c) && decide (c ≤ 57))))
theorem let_loop (c : Int) (b : Bool) : ∀ (d : Nat) (x : Int), x + d = 123 → 97 ≤ x → Ev (fun k => zbg.l0 k c b x) ((decide (x ≤ c) && decide (c ≤ 122)) || (!b && (c == 95 || (decide (48 ≤ c) && decide (c ≤ 57)))))
 | 0, x, h, h9 => by
  refine Ev.step (f := fun _ => some ((decide (x ≤ c) && decide (c ≤ 122)) || (!b && (c == 95 || (decide (48 ≤ c) && decide (c ≤ 57)))))) (fun k => ?_) (Ev.now _)
  simp only [zbg.l0]
  rw [if_neg (by omega), show (decide (x ≤ c) && decide (c ≤ 122)) = false from by rw [Bool.and_eq_false_iff, decide_eq_false_iff_not, decide_eq_false_iff_not]; omega, Bool.false_or]
  cases b
  ·by_cases e : c = 95
   ·simp [e]
   ·by_cases e2 : c ≥ 48
    ·simp [e, e2]
    ·simp [e, e2]
  ·simp
 | d + 1, x, h, h9 => by
  by_cases e : c = x
  ·refine Ev.step (f := fun _ => some true) (fun k => ?_) (by rw [show (decide (x ≤ c) && decide (c ≤ 122)) = true from by rw [Bool.and_eq_true, decide_eq_true_eq, decide_eq_true_eq]; omega, Bool.true_or]; exact Ev.now _)
   simp only [zbg.l0]
   rw [if_pos (by omega), if_pos e]
  ·have ih := let_loop c b d (x + 1) (by omega) (by omega)
   rw [show decide (x + 1 ≤ c) = decide (x ≤ c) from by rw [decide_eq_decide]; omega] at ih
   refine Ev.step (f := fun k => zbg.l0 k c b (x + 1)) (fun k => ?_) ih
   simp only [zbg.l0]
   rw [if_pos (by omega), if_neg e, show (x + 1) % 256 = x + 1 from by omega]
theorem ev_letter (c : Int) (b : Bool) : Ev (fun k => zbg.f k c b) (letB c b) := let_loop c b 26 97 (by omega) (by omega)
theorem rw_loop (s : ByteArray) (hs : s.size ≤ 9223372036854775807) : ∀ (d i : Nat), i + d = s.size → Ev (fun k => zbf.l0 k s (i : Int)) (allN (fun j => letB (bt s (j : Int)) ((j : Int) == 0)) d i && (decide (1 ≤ s.size) && decide (s.size ≤ 40)))
 | 0, i, h => by
  refine Ev.step (f := fun _ => some (decide (1 ≤ s.size) && decide (s.size ≤ 40))) (fun k => ?_) (Ev.now _)
  simp only [zbf.l0]
  rw [if_neg (by omega)]
  by_cases e : 1 ≤ s.size
  ·rw [if_pos (by omega), decide_eq_true e, Bool.true_and, show decide ((s.size : Int) ≤ 40) = decide (s.size ≤ 40) from by rw [decide_eq_decide]; omega]
  ·rw [if_neg (by omega), decide_eq_false e, Bool.false_and]
 | d + 1, i, h => by
  have ih := rw_loop s hs d (i + 1) (by omega)
  refine Ev.step (f := fun k => (zbg.f k (bt s (i : Int)) ((i : Int) == 0)).bind fun t => (if t = true then zbf.l0 k s ((i + 1 : Nat) : Int) else some false)) (fun k => ?_) ?_
  ·simp only [zbf.l0]
   rw [if_pos (by omega), if_pos (by omega), show wrap64 ((i : Int) + 1) = ((i + 1 : Nat) : Int) from by unfold wrap64; omega]
  ·refine Ev.bind (ev_letter _ _) ?_
   simp only [allN]
   cases letB (bt s (i : Int)) ((i : Int) == 0) with
   | true => simpa using ih
   | false => simpa using Ev.now false
theorem ev_rword (s : ByteArray) (hs : s.size ≤ 9223372036854775807) : Ev (fun k => zbf.f k s) (wd s) := by
 have h := rw_loop s hs s.size 0 (by omega)
 have e : (allN (fun j => letB (bt s (j : Int)) ((j : Int) == 0)) s.size 0 && (decide (1 ≤ s.size) && decide (s.size ≤ 40))) = wd s := by
  unfold wd
  by_cases h1 : 1 ≤ s.size
  ·rw [decide_eq_true h1, Bool.true_and, Bool.true_and]
   obtain ⟨n, hn⟩ : ∃ n, s.size = n + 1 := ⟨s.size - 1, by omega⟩
   have hz : decide (s.size ≤ 40) = decide (s.size ≤ 40) := rfl
   rw [Bool.and_comm]
   congr 1
   rw [hn]
   simp only [allN]
   rw [allN_congr (q := fun j => chr (bt s (j : Int))) n (0 + 1) (fun j h1 h2 => by
    have : ((j : Int) == 0) = false := beq_eq_false_iff_ne.mpr (by omega)
    rw [this]
    unfold letB chr
    cases decide (97 ≤ bt s (j : Int)) <;> cases decide (bt s (j : Int) ≤ 122) <;> cases decide (48 ≤ bt s (j : Int)) <;> cases decide (bt s (j : Int) ≤ 57) <;> cases (bt s (j : Int) == 95) <;> rfl)]
   rw [show (((0 : Nat) : Int) == 0) = true from rfl]
   unfold letB chr
   simp only [Int.natCast_zero]
   cases decide (97 ≤ bt s 0) <;> cases decide (bt s 0 ≤ 122) <;> simp
  ·rw [decide_eq_false h1, Bool.false_and, Bool.false_and, Bool.and_false]
 rw [e] at h
 exact h
def vr (x : S38) : Bool := if x.f0 = 0 then x.f1 == 0 && x.f2.size == 0 else if x.f0 = 1 then x.f2.size == 0 else if x.f0 = 2 then x.f1 == 0 && wd x.f2 else x.f0 == 3 && ((x.f1 == 1 || x.f1 == 0) && x.f2.size == 0)
theorem ev_vr (x : S38) (hs : x.f2.size ≤ 9223372036854775807) : Ev (fun k => zb9.f k x.f0 x.f1 x.f2) (vr x) := by
 unfold vr
 by_cases h0 : x.f0 = 0
 ·rw [if_pos h0]
  refine Ev.congr (f := fun _ => some (x.f1 == 0 && x.f2.size == 0)) (fun k => ?_) (Ev.now _)
  unfold zb9.f
  rw [if_pos h0, zcs, h0]
  rfl
 ·rw [if_neg h0]
  by_cases h1 : x.f0 = 1
  ·rw [if_pos h1]
   refine Ev.congr (f := fun _ => some (x.f2.size == 0)) (fun k => ?_) (Ev.now _)
   unfold zb9.f
   rw [if_neg h0, if_pos h1, zcs]
  ·rw [if_neg h1]
   by_cases h2 : x.f0 = 2
   ·rw [if_pos h2]
    by_cases h3 : x.f1 = 0
    ·rw [show (x.f1 == 0) = true from beq_iff_eq.mpr h3, Bool.true_and]
     refine Ev.congr (f := fun k => (zbb.f k x.f2).bind fun t => some t) (fun k => ?_) (Ev.bind (ev_word _ hs) (Ev.now _))
     unfold zb9.f
     rw [if_neg h0, if_neg h1, if_pos h2, if_pos h3]
    ·rw [show (x.f1 == 0) = false from beq_eq_false_iff_ne.mpr h3, Bool.false_and]
     refine Ev.congr (f := fun _ => some false) (fun k => ?_) (Ev.now _)
     unfold zb9.f
     rw [if_neg h0, if_neg h1, if_pos h2, if_neg h3]
   ·rw [if_neg h2]
    refine Ev.congr (f := fun _ => some (x.f0 == 3 && ((x.f1 == 1 || x.f1 == 0) && x.f2.size == 0))) (fun k => ?_) (Ev.now _)
    unfold zb9.f
    rw [if_neg h0, if_neg h1, if_neg h2, zcs]
    cases (x.f0 == 3) <;> cases (x.f1 == 1) <;> cases (x.f1 == 0) <;> cases (x.f2.size == 0) <;> rfl
theorem ev_rvr (x : S38) (hs : x.f2.size ≤ 9223372036854775807) : Ev (fun k => zax.f k x.f0 x.f1 x.f2) (vr x) := by
 unfold vr
 by_cases h0 : x.f0 = 0
 ·rw [if_pos h0]
  refine Ev.congr (f := fun _ => some (x.f1 == 0 && x.f2.size == 0)) (fun k => ?_) (Ev.now _)
  unfold zax.f
  rw [if_pos h0, zcs]
  by_cases h3 : x.f1 = 0 <;> simp [h3]
 ·rw [if_neg h0]
  by_cases h1 : x.f0 = 1
  ·rw [if_pos h1]
   refine Ev.congr (f := fun _ => some (x.f2.size == 0)) (fun k => ?_) (Ev.now _)
   unfold zax.f
   rw [if_neg h0, if_pos h1, zcs]
  ·rw [if_neg h1]
   by_cases h2 : x.f0 = 2
   ·rw [if_pos h2]
    by_cases h3 : x.f1 = 0
    ·rw [show (x.f1 == 0) = true from beq_iff_eq.mpr h3, Bool.true_and]
     refine Ev.congr (f := fun k => (zbf.f k x.f2).bind fun t => some t) (fun k => ?_) (Ev.bind (ev_rword _ hs) (Ev.now _))
     unfold zax.f
     rw [if_neg h0, if_neg h1, if_pos h2, if_pos h3]
    ·rw [show (x.f1 == 0) = false from beq_eq_false_iff_ne.mpr h3, Bool.false_and]
     refine Ev.congr (f := fun _ => some false) (fun k => ?_) (Ev.now _)
     unfold zax.f
     rw [if_neg h0, if_neg h1, if_pos h2, if_neg h3]
   ·rw [if_neg h2]
    refine Ev.congr (f := fun _ => some (x.f0 == 3 && ((x.f1 == 1 || x.f1 == 0) && x.f2.size == 0))) (fun k => ?_) (Ev.now _)
    unfold zax.f
    rw [if_neg h0, if_neg h1, if_neg h2, zcs]
    by_cases h3 : x.f0 = 3
    ·by_cases h4 : x.f1 = 0
     ·simp [h3, h4]
     ·by_cases h5 : x.f1 = 1 <;> simp [h3, h4, h5]
    ·simp [h3]
def nm (x : S38) : Bool := vr x && (x.f0 == 1 || x.f0 == 2)
theorem ev_name (x : S38) (hs : x.f2.size ≤ 9223372036854775807) : Ev (fun k => zbi.f k x.f0 x.f1 x.f2) (nm x) := by
 refine Ev.congr (f := fun k => (zax.f k x.f0 x.f1 x.f2).bind fun t => (if t = true then (if x.f0 = 1 then some true else some (x.f0 == 2)) else some false)) (fun k => rfl) ?_
 refine Ev.bind (ev_rvr x hs) ?_
 unfold nm
 cases vr x with
 | false => simpa using Ev.now false
 | true =>
  by_cases h : x.f0 = 1
  ·simpa [h] using Ev.now true
  ·have e : (x.f0 == 1) = false := beq_eq_false_iff_ne.mpr h
   simpa [h, e] using Ev.now (x.f0 == 2)
def tk (d : Int) (x : S38) : Bool := vr x && (if 0 ≤ d ∧ d ≤ 4 then (x.f0 == 1 || x.f0 == 2) else if d = 5 then x.f0 == 1 else d == 6 && x.f0 == 3)
theorem ev_tk (d : Int) (x : S38) (hs : x.f2.size ≤ 9223372036854775807) : Ev (fun k => za9.f k d x.f0 x.f1 x.f2) (tk d x) := by
 refine Ev.bind (f := fun k t => (if t = true then (if d = 0 then (za9.j0 k d d (d == 0) x.f0 x.f1 x.f2) else (if d = 1 then (za9.j0 k d d (d == 1) x.f0 x.f1 x.f2) else (if d = 2 then (za9.j0 k d d (d == 2) x.f0 x.f1 x.f2) else (if d = 3 then (za9.j0 k d d (d == 3) x.f0 x.f1 x.f2) else (za9.j0 k d d (d == 4) x.f0 x.f1 x.f2))))) else (some false))) (ev_vr x hs) ?_
 unfold tk
 cases vr x with
 | false => simpa using Ev.now false
 | true =>
  simp only [if_true, Bool.true_and]
  by_cases hd : 0 ≤ d ∧ d ≤ 4
  ·rw [if_pos hd]
   refine Ev.congr (f := fun k => za9.j0 k d d true x.f0 x.f1 x.f2) (fun k => ?_) ?_
   ·by_cases h0 : d = 0
    ·simp [h0]
    ·by_cases h1 : d = 1
     ·simp [h1]
     ·by_cases h2 : d = 2
      ·simp [h2]
      ·by_cases h3 : d = 3
       ·simp [h3]
       ·have h4 : d = 4 := by omega
        simp [h4]
   ·refine Ev.step (f := fun _ => some (x.f0 == 1 || x.f0 == 2)) (fun k => ?_) (Ev.now _)
    simp only [za9.j0]
    by_cases h : x.f0 = 1 <;> simp [h]
  ·rw [if_neg hd]
   refine Ev.congr (f := fun k => za9.j0 k d d false x.f0 x.f1 x.f2) (fun k => ?_) ?_
   ·rw [if_neg (by omega), if_neg (by omega), if_neg (by omega), if_neg (by omega), show (d == 4) = false from beq_eq_false_iff_ne.mpr (by omega)]
   ·by_cases h5 : d = 5
    ·rw [if_pos h5]
     refine Ev.step (f := fun _ => some (x.f0 == 1)) (fun k => ?_) (Ev.now _)
     simp only [za9.j0]
     rw [if_neg (by decide), if_pos h5]
    ·rw [if_neg h5]
     refine Ev.step (f := fun _ => some (d == 6 && x.f0 == 3)) (fun k => ?_) (Ev.now _)
     simp only [za9.j0]
     rw [if_neg (by decide), if_neg h5]
     by_cases h6 : d = 6 <;> simp [h6]
theorem ev_rtk (d : Int) (x : S38) (hs : x.f2.size ≤ 9223372036854775807) : Ev (fun k => za1.f k d x.f0 x.f1 x.f2) (tk d x) := by
 have hj : Ev (fun k => za1.j0 k d (decide (0 ≤ d ∧ d ≤ 4)) x.f0 x.f1 x.f2) (tk d x) := by
  unfold tk
  by_cases hd : 0 ≤ d ∧ d ≤ 4
  ·rw [decide_eq_true hd, if_pos hd]
   refine Ev.step (f := fun k => (zbi.f k x.f0 x.f1 x.f2).bind fun t => some t) (fun k => ?_) (Ev.bind (ev_name x hs) (Ev.now _))
   simp only [za1.j0]
   rfl
  ·rw [decide_eq_false hd, if_neg hd]
   by_cases h5 : d = 5
   ·rw [if_pos h5]
    refine Ev.step (f := fun k => (zax.f k x.f0 x.f1 x.f2).bind fun t => (if t = true then some (x.f0 == 1) else some false)) (fun k => ?_) (Ev.bind (ev_rvr x hs) ?_)
    ·simp only [za1.j0]
     rw [if_neg (by decide), if_pos h5]
     have h6 : ¬ d = 6 := by omega
     congr 1
     funext t
     by_cases h : x.f0 = 1 <;> simp [h, h6]
    ·cases vr x with
     | false => simpa using Ev.now false
     | true => simpa using Ev.now (x.f0 == 1)
   ·rw [if_neg h5]
    by_cases h6 : d = 6
    ·rw [h6]
     refine Ev.step (f := fun k => (zax.f k x.f0 x.f1 x.f2).bind fun t => (if t = true then some (x.f0 == 3) else some false)) (fun k => ?_) (Ev.bind (ev_rvr x hs) ?_)
     ·simp only [za1.j0]
      rw [if_neg (by decide), if_neg (by decide), if_pos trivial]
     ·cases vr x with
      | false => simpa using Ev.now false
      | true => simpa using Ev.now (x.f0 == 3)
    ·refine Ev.step (f := fun _ => some false) (fun k => ?_) (by rw [show (d == 6) = false from beq_eq_false_iff_ne.mpr h6, Bool.false_and, Bool.and_false]; exact Ev.now _)
     simp only [za1.j0]
     rw [if_neg (by decide), if_neg h5, if_neg h6]
 refine Ev.congr (f := fun k => za1.j0 k d (decide (0 ≤ d ∧ d ≤ 4)) x.f0 x.f1 x.f2) (fun k => ?_) hj
 unfold za1.f
 by_cases h0 : d ≥ 0
 ·rw [if_pos h0, show decide (0 ≤ d ∧ d ≤ 4) = decide (d ≤ 4) from by rw [decide_eq_decide]; omega]
 ·rw [if_neg h0, show decide (0 ≤ d ∧ d ≤ 4) = false from decide_eq_false (by omega)]
end Go.Proofs.YtikmmigfdchcpaaDoor.PP
