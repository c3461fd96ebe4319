/-
  Proved: a part of the proof of the claim's statement (text L4 of it).
  Conditions: none of ours.
-/
import Derived.Test.YtikmmigfdchcpaaDoorPbQ0
import Derived.Test.YtikmmigfdchcpaaDoorPbL3
import Derived.Test.YtikmmigfdchcpaaDoorPbC
import Derived.Test.YtikmmigfdchcpaaDoorPbQ45
import Derived.Test.YtikmmigfdchcpaaDoorPbQ47
import Derived.Test.YtikmmigfdchcpaaDoorPbQ46
import Derived.Test.YtikmmigfdchcpaaDoorPbQ48
import Derived.Test.YtikmmigfdchcpaaDoorPbS
namespace Go.Proofs.YtikmmigfdchcpaaDoor.PP
open Go.RowKit Go.Proofs.YtikmmigfdchcpaaDoorW.PrintWords Go.Proofs.YtikmmigfdchcpaaDoorW.PrintLast Go.Proofs.YtikmmigfdchcpaaDoorW.PrintMore
set_option linter.unusedVariables false
set_option linter.unusedSimpArgs false
def ev (l : List S47) (j : Nat) : S47 := zah l (j : Int)
def ceq (a b : S38) : Bool := a.f0 == b.f0 && (a.f1 == b.f1 && (a.f2.toList == b.f2.toList))
theorem ceq_iff {a b : S38} : ceq a b = true ↔ a.f0 = b.f0 ∧ a.f1 = b.f1 ∧ a.f2.toList = b.f2.toList := by
 unfold ceq
 rw [Bool.and_eq_true, Bool.and_eq_true, beq_iff_eq, beq_iff_eq, beq_iff_eq]
theorem ceq_symm {a b : S38} (h : ceq a b = true) : ceq b a = true := by
 rw [ceq_iff] at h ⊢
 exact ⟨h.1.symm, h.2.1.symm, h.2.2.symm⟩
theorem ceq_trans {a b c : S38} (h : ceq a b = true) (k : ceq b c = true) : ceq a c = true := by
 rw [ceq_iff] at h k ⊢
 exact ⟨h.1.trans k.1, h.2.1.trans k.2.1, h.2.2.trans k.2.2⟩
theorem ceq_key {a b : S38} (ha : keyOk a = true) (hb : keyOk b = true) : zbw a = zbw b ↔ ceq a b = true := by
 rw [ceq_iff, ByteArray.toList_eq, ByteArray.toList_eq]
 constructor
 ·exact keyLit_inj ha hb
 ·rintro ⟨h1, h2, h3⟩
  unfold zbw
  rw [h1, h2, h3]
def lastC (l : List S47) (x : S38) : Nat → Option Nat
 | 0 => none
 | n + 1 => if ceq (ev l n).f1 x = true then some n else lastC l x n
theorem zc2 {l : List S47} {x : S38} : ∀ {n a : Nat}, lastC l x n = some a → a < n ∧ ceq (ev l a).f1 x = true ∧ ∀ j, a < j → j < n → ceq (ev l j).f1 x = false
 | 0, a, h => by cases h
 | n + 1, a, h => by
  unfold lastC at h
  split at h
  ·next hc =>
   obtain rfl := Option.some.inj h
   exact ⟨by omega, hc, fun j h1 h2 => by omega⟩
  ·next hc =>
   obtain ⟨h1, h2, h3⟩ := zc2 h
   refine ⟨by omega, h2, fun j h4 h5 => ?_⟩
   by_cases e : j = n
   ·subst e; exact Bool.eq_false_iff.mpr hc
   ·exact h3 j h4 (by omega)
theorem lastC_none {l : List S47} {x : S38} : ∀ {n : Nat}, lastC l x n = none → ∀ j, j < n → ceq (ev l j).f1 x = false
 | 0, h, j, hj => by omega
 | n + 1, h, j, hj => by
  unfold lastC at h
  split at h
  ·cases h
  ·next hc =>
   by_cases e : j = n
   ·subst e; exact Bool.eq_false_iff.mpr hc
   ·exact lastC_none h j (by omega)
theorem lastC_of {l : List S47} {x : S38} {n a : Nat} (h1 : a < n) (h2 : ceq (ev l a).f1 x = true) (h3 : ∀ j, a < j → j < n → ceq (ev l j).f1 x = false) : lastC l x n = some a := by
 cases h : lastC l x n with
 | none => have := lastC_none h a h1; rw [h2] at this; cases this
 | some b =>
  obtain ⟨g1, g2, g3⟩ := zc2 h
  rcases Nat.lt_trichotomy a b with e | e | e
  ·have := h3 b e g1; rw [g2] at this; cases this
  ·rw [e]
  ·have := g3 a e h1; rw [h2] at this; cases this
theorem lastC_congr {l : List S47} {x y : S38} (h : ceq x y = true) : ∀ n, lastC l x n = lastC l y n
 | 0 => rfl
 | n + 1 => by
  have e : ceq (ev l n).f1 x = ceq (ev l n).f1 y := by
   rw [Bool.eq_iff_iff]
   exact ⟨fun g => ceq_trans g h, fun g => ceq_trans g (ceq_symm h)⟩
  simp only [lastC]
  rw [e, lastC_congr h n]
def nx (l : List S47) (a q : Nat) : Prop := lastC l (ev l q).f1 q = some a
theorem nx_lt {l : List S47} {a q : Nat} (h : nx l a q) : a < q := (zc2 h).1
theorem nx_left {l : List S47} {a b q : Nat} (h : nx l a q) (k : nx l b q) : a = b := Option.some.inj (h.symm.trans k)
theorem nx_right {l : List S47} {a p q : Nat} (h : nx l a p) (k : nx l a q) : p = q := by
 obtain ⟨h1, h2, h3⟩ := zc2 h
 obtain ⟨k1, k2, k3⟩ := zc2 k
 rcases Nat.lt_trichotomy p q with e | e | e
 ·have := k3 p h1 e
  rw [ceq_trans (ceq_symm h2) k2] at this
  cases this
 ·exact e
 ·have := h3 q k1 e
  rw [ceq_trans (ceq_symm k2) h2] at this
  cases this
def nextN (l : List S47) (a : Nat) : Nat → Nat → Option Nat
 | 0, _ => none
 | d + 1, i => if ceq (ev l i).f1 (ev l a).f1 = true then some i else nextN l a d (i + 1)
theorem nextN_some {l : List S47} {a : Nat} : ∀ {d i q : Nat}, nextN l a d i = some q → i ≤ q ∧ q < i + d ∧ ceq (ev l q).f1 (ev l a).f1 = true ∧ ∀ j, i ≤ j → j < q → ceq (ev l j).f1 (ev l a).f1 = false
 | 0, i, q, h => by cases h
 | d + 1, i, q, h => by
  unfold nextN at h
  split at h
  ·next hc =>
   obtain rfl := Option.some.inj h
   exact ⟨Nat.le_refl _, by omega, hc, fun j h1 h2 => by omega⟩
  ·next hc =>
   obtain ⟨h1, h2, h3, h4⟩ := nextN_some h
   refine ⟨by omega, by omega, h3, fun j h5 h6 => ?_⟩
   by_cases e : j = i
   ·subst e; exact Bool.eq_false_iff.mpr hc
   ·exact h4 j (by omega) h6
theorem nextN_none {l : List S47} {a : Nat} : ∀ {d i : Nat}, nextN l a d i = none → ∀ j, i ≤ j → j < i + d → ceq (ev l j).f1 (ev l a).f1 = false
 | 0, i, h, j, h1, h2 => by omega
 | d + 1, i, h, j, h1, h2 => by
  unfold nextN at h
  split at h
  ·cases h
  ·next hc =>
   by_cases e : j = i
   ·subst e; exact Bool.eq_false_iff.mpr hc
   ·exact nextN_none h j (by omega) (by omega)
def nxt (l : List S47) (n a : Nat) : Option Nat := nextN l a (n - (a + 1)) (a + 1)
theorem nxt_iff {l : List S47} {n a q : Nat} : nxt l n a = some q ↔ nx l a q ∧ q < n := by
 unfold nxt nx
 constructor
 ·intro h
  obtain ⟨h1, h2, h3, h4⟩ := nextN_some h
  refine ⟨lastC_of (by omega) (ceq_symm h3) (fun j h5 h6 => ?_), by omega⟩
  have := h4 j (by omega) h6
  rw [Bool.eq_false_iff] at this ⊢
  intro e
  exact this (ceq_trans e h3)
 ·rintro ⟨h, hq⟩
  obtain ⟨h1, h2, h3⟩ := zc2 h
  cases g : nextN l a (n - (a + 1)) (a + 1) with
  | none =>
   have := nextN_none g q (by omega) (by omega)
   rw [ceq_symm h2] at this
   cases this
  | some p =>
   have hp : nx l a p := by
    obtain ⟨g1, g2, g3, g4⟩ := nextN_some g
    refine lastC_of (by omega) (ceq_symm g3) (fun j h5 h6 => ?_)
    have := g4 j (by omega) h6
    rw [Bool.eq_false_iff] at this ⊢
    intro e
    exact this (ceq_trans e g3)
   rw [nx_right hp h]
theorem nxt_none {l : List S47} {n a : Nat} : nxt l n a = none ↔ ∀ q, q < n → ¬ nx l a q := by
 constructor
 ·intro h q hq hn
  rw [nxt_iff.2 ⟨hn, hq⟩] at h
  cases h
 ·intro h
  cases g : nxt l n a with
  | none => rfl
  | some q =>
   obtain ⟨g1, g2⟩ := nxt_iff.1 g
   exact absurd g1 (h q g2)
def busyAt (l : List S47) (x : S38) (n : Nat) : Bool := match lastC l x n with
 | some j => (ev l j).f2 == 1
 | none => false
def lostAt (l : List S47) (x : S38) (n : Nat) : Bool := match lastC l x n with
 | some j => (ev l j).f2 == 4
 | none => false
def outsAt (l : List S47) (n : Nat) : Bool := match lastC l (ev l n).f1 n with
 | some j => outB (ev l j).f3 (ev l j).f5 (ev l n).f7
 | none => false
def wrongS (l : List S47) (n : Nat) : Int :=
 if rB (ev l n) = false then 2
 else if 0 < n ∧ (ev l n).f0 < (ev l (n - 1)).f0 then 4
 else if (ev l n).f2 = 1 then (if busyAt l (ev l n).f1 n = true then 4 else if lostAt l (ev l n).f1 n = true then 4 else 0)
 else if busyAt l (ev l n).f1 n = true then (if (ev l n).f2 = 2 then (if outsAt l n = true then 0 else 4) else 0) else 4
def Good (l : List S47) : Prop := l.length ≤ 1000 ∧ ∀ x ∈ l, Ok47 x ∧ keyOk x.f1 = true
theorem ev_mem {l : List S47} {i : Nat} (h : i < l.length) : ev l i ∈ l := by
 unfold ev
 simp only [zah, Int.toNat_natCast, List.getD_eq_getElem?_getD, List.getElem?_eq_getElem h, Option.getD_some]
 exact List.getElem_mem h
theorem last_loop (l : List S47) (at_ : Nat) (h1 : at_ < l.length) (hl : l.length ≤ 1000) : ∀ (n : Nat), n ≤ at_ →
  Ev (fun k => zbj.l0 k l (at_ : Int) ((n : Int) - 1)) (match lastC l (ev l at_).f1 n with | some j => (j : Int) | none => -1)
 | 0, _ => Ev.step (f := fun _ => some (-1)) (fun k => by simp only [zbj.l0]; rw [if_neg (by omega)]) (Ev.now _)
 | n + 1, hn => by
  have ih := last_loop l at_ h1 hl n (by omega)
  refine Ev.step (f := fun k => if ceq (ev l n).f1 (ev l at_).f1 = true then some (n : Int) else zbj.l0 k l (at_ : Int) ((n : Int) - 1)) (fun k => ?_) ?_
  ·simp only [zbj.l0]
   rw [show ((n + 1 : Nat) : Int) - 1 = (n : Int) by omega, if_pos (by omega), if_pos (by omega), if_pos (by omega), if_pos (by omega), if_pos (by omega), show wrap64 ((n : Int) - 1) = (n : Int) - 1 from by unfold wrap64; omega]
   rfl
  ·simp only [lastC]
   by_cases hc : ceq (ev l n).f1 (ev l at_).f1 = true
   ·simp only [hc, if_true]
    exact Ev.now _
   ·simp only [hc]
    exact ih
theorem ev_last (l : List S47) (i : Nat) (h1 : i < l.length) (hl : l.length ≤ 1000) : Ev (fun k => zbj.f k l (i : Int)) (match lastC l (ev l i).f1 i with | some j => (j : Int) | none => -1) := by
 refine Ev.congr (fun k => ?_) (last_loop l i h1 hl i (Nat.le_refl _))
 unfold zbj.f
 rw [show wrap64 ((i : Int) - 1) = (i : Int) - 1 from by unfold wrap64; omega]
theorem ev_w2 (l : List S47) (i : Nat) (hi : i < l.length) (hg : Good l) (j : Option Nat) (hj : ∀ a, j = some a → a < l.length) (b c : Bool) (hb : b = true → ∃ a, j = some a) :
  Ev (fun k => zar.j2 k l (match j with | some a => (a : Int) | none => -1) b c (ev l i).f0 (ev l i).f1.f0 (ev l i).f1.f1 (ev l i).f1.f2 (ev l i).f2 (ev l i).f3 (ev l i).f4.f0 (ev l i).f4.f1 (ev l i).f4.f2 (ev l i).f5 (ev l i).f6 (ev l i).f7 (ev l i).f8 (ev l i).f9)
   (if (ev l i).f2 = 1 then (if b = true then 4 else if c = true then 4 else 0) else if b = true then (if (ev l i).f2 = 2 then (if (match j with | some a => outB (ev l a).f3 (ev l a).f5 (ev l i).f7 | none => false) = true then 0 else 4) else 0) else 4) := by
 have hx := (hg.2 _ (ev_mem hi)).1
 by_cases h1 : (ev l i).f2 = 1
 ·rw [if_pos h1]
  refine Ev.step (f := fun _ => some (if b = true then 4 else if c = true then 4 else 0)) (fun k => ?_) (Ev.now _)
  simp only [zar.j2]
  rw [if_pos h1]
  cases b <;> cases c <;> rfl
 ·rw [if_neg h1]
  cases b with
  | false =>
   refine Ev.step (f := fun _ => some 4) (fun k => ?_) (Ev.now _)
   simp only [zar.j2]
   rw [if_neg h1, if_neg (by decide)]
  | true =>
   rw [if_pos rfl]
   by_cases h2 : (ev l i).f2 = 2
   ·rw [if_pos h2]
    obtain ⟨a, rfl⟩ := hb rfl
    have ha := hj a rfl
    obtain ⟨L, hL⟩ := ev_routs (ev l a).f3 (ev l a).f5 (ev l i).f7 hx.2.2.2.1 (by have := hx.2.2.2.2.2.1; omega)
    refine Ev.step (f := fun k => (zat.f k (ev l a).f3 (ev l a).f5 (ev l i).f7).bind fun bt289 => (if bt289.2 = true then some 0 else some 4)) (fun k => ?_) (Ev.bind hL ?_)
    ·simp only [zar.j2]
     rw [if_neg h1, if_pos trivial, if_pos h2, if_pos (by omega), if_pos (by omega)]
     rfl
    ·show Ev (fun n => if outB (ev l a).f3 (ev l a).f5 (ev l i).f7 = true then some 0 else some 4) (if outB (ev l a).f3 (ev l a).f5 (ev l i).f7 = true then 0 else 4)
     cases outB (ev l a).f3 (ev l a).f5 (ev l i).f7 with
     | true => exact Ev.now _
     | false => exact Ev.now _
   ·rw [if_neg h2]
    refine Ev.step (f := fun _ => some 0) (fun k => ?_) (Ev.now _)
    simp only [zar.j2]
    rw [if_neg h1, if_pos trivial, if_neg h2]
theorem ev_w0 (l : List S47) (i : Nat) (hi : i < l.length) (hg : Good l) (t : Bool) :
  Ev (fun k => zar.j0 k l (i : Int) t (ev l i).f0 (ev l i).f1.f0 (ev l i).f1.f1 (ev l i).f1.f2 (ev l i).f2 (ev l i).f3 (ev l i).f4.f0 (ev l i).f4.f1 (ev l i).f4.f2 (ev l i).f5 (ev l i).f6 (ev l i).f7 (ev l i).f8 (ev l i).f9)
   (if t = true then 4 else if (ev l i).f2 = 1 then (if busyAt l (ev l i).f1 i = true then 4 else if lostAt l (ev l i).f1 i = true then 4 else 0)
    else if busyAt l (ev l i).f1 i = true then (if (ev l i).f2 = 2 then (if outsAt l i = true then 0 else 4) else 0) else 4) := by
 cases t with
 | true => exact Ev.step (f := fun _ => some 4) (fun k => by simp only [zar.j0]; rfl) (Ev.now _)
 | false =>
  rw [if_neg (by decide)]
  have hlast := ev_last l i hi hg.1
  refine Ev.step (f := fun k => (zbj.f k l (i : Int)).bind fun t284 => (if t284 ≥ 0 then (if 0 ≤ t284 then (if t284 < (l.length : Int) then (zar.j1 k l t284 (((zah l t284).f2) == 1) (ev l i).f0 (ev l i).f1.f0 (ev l i).f1.f1 (ev l i).f1.f2 (ev l i).f2 (ev l i).f3 (ev l i).f4.f0 (ev l i).f4.f1 (ev l i).f4.f2 (ev l i).f5 (ev l i).f6 (ev l i).f7 (ev l i).f8 (ev l i).f9) else (none)) else (none)) else (zar.j1 k l t284 false (ev l i).f0 (ev l i).f1.f0 (ev l i).f1.f1 (ev l i).f1.f2 (ev l i).f2 (ev l i).f3 (ev l i).f4.f0 (ev l i).f4.f1 (ev l i).f4.f2 (ev l i).f5 (ev l i).f6 (ev l i).f7 (ev l i).f8 (ev l i).f9))) (fun k => by simp only [zar.j0]; rw [if_neg (by decide)]) (Ev.bind hlast ?_)
  unfold busyAt lostAt outsAt
  cases hc : lastC l (ev l i).f1 i with
  | none =>
   have h := ev_w2 l i hi hg none (fun a e => by cases e) false false (fun e => by cases e)
   refine Ev.congr (f := fun k => zar.j1 k l (-1) false (ev l i).f0 (ev l i).f1.f0 (ev l i).f1.f1 (ev l i).f1.f2 (ev l i).f2 (ev l i).f3 (ev l i).f4.f0 (ev l i).f4.f1 (ev l i).f4.f2 (ev l i).f5 (ev l i).f6 (ev l i).f7 (ev l i).f8 (ev l i).f9) (fun k => by rw [if_neg (by decide)]) ?_
   refine Ev.step (f := fun k => zar.j2 k l (-1) false false (ev l i).f0 (ev l i).f1.f0 (ev l i).f1.f1 (ev l i).f1.f2 (ev l i).f2 (ev l i).f3 (ev l i).f4.f0 (ev l i).f4.f1 (ev l i).f4.f2 (ev l i).f5 (ev l i).f6 (ev l i).f7 (ev l i).f8 (ev l i).f9) (fun k => ?_) h
   simp only [zar.j1]
   rw [if_neg (by decide)]
  | some a =>
   have ha := (zc2 hc).1
   have h := ev_w2 l i hi hg (some a) (fun b e => by obtain rfl := Option.some.inj e; omega) ((ev l a).f2 == 1) ((ev l a).f2 == 4) (fun _ => ⟨a, rfl⟩)
   refine Ev.congr (f := fun k => zar.j1 k l (a : Int) ((ev l a).f2 == 1) (ev l i).f0 (ev l i).f1.f0 (ev l i).f1.f1 (ev l i).f1.f2 (ev l i).f2 (ev l i).f3 (ev l i).f4.f0 (ev l i).f4.f1 (ev l i).f4.f2 (ev l i).f5 (ev l i).f6 (ev l i).f7 (ev l i).f8 (ev l i).f9) (fun k => ?_) ?_
   ·show (if (a : Int) ≥ 0 then (if 0 ≤ (a : Int) then (if (a : Int) < (l.length : Int) then _ else none) else none) else _) = _
    rw [if_pos (by omega), if_pos (by omega), if_pos (by omega)]
    rfl
   ·refine Ev.step (f := fun k => zar.j2 k l (a : Int) ((ev l a).f2 == 1) ((ev l a).f2 == 4) (ev l i).f0 (ev l i).f1.f0 (ev l i).f1.f1 (ev l i).f1.f2 (ev l i).f2 (ev l i).f3 (ev l i).f4.f0 (ev l i).f4.f1 (ev l i).f4.f2 (ev l i).f5 (ev l i).f6 (ev l i).f7 (ev l i).f8 (ev l i).f9) (fun k => ?_) h
    simp only [zar.j1]
    rw [if_pos (by omega), if_pos (by omega), if_pos (by omega)]
    rfl
theorem ev_wrong (l : List S47) (i : Nat) (hi : i < l.length) (hg : Good l) : Ev (fun k => zar.f k l (i : Int)) (wrongS l i) := by
 have hl := hg.1
 have hx := (hg.2 _ (ev_mem hi)).1
 refine Ev.congr (f := fun k => (zao.f k (ev l i).f0 (ev l i).f1.f0 (ev l i).f1.f1 (ev l i).f1.f2 (ev l i).f2 (ev l i).f3 (ev l i).f4.f0 (ev l i).f4.f1 (ev l i).f4.f2 (ev l i).f5 (ev l i).f6 (ev l i).f7 (ev l i).f8 (ev l i).f9).bind fun t282 => (if t282 = true then (zar.j0 k l (i : Int) (decide (0 < i ∧ (ev l i).f0 < (ev l (i - 1)).f0)) (ev l i).f0 (ev l i).f1.f0 (ev l i).f1.f1 (ev l i).f1.f2 (ev l i).f2 (ev l i).f3 (ev l i).f4.f0 (ev l i).f4.f1 (ev l i).f4.f2 (ev l i).f5 (ev l i).f6 (ev l i).f7 (ev l i).f8 (ev l i).f9) else some 2)) (fun k => ?_) (Ev.bind (ev_rright _ hx) ?_)
 ·unfold zar.f
  rw [if_neg (by omega), if_pos (by omega), if_pos (by omega)]
  congr 1
  funext t
  cases t with
  | false => rfl
  | true =>
   rw [if_pos rfl, if_pos rfl]
   by_cases h0 : i = 0
   ·subst h0
    rw [if_neg (by decide)]
    rfl
   ·have hw : wrap64 ((i : Int) - 1) = ((i - 1 : Nat) : Int) := by unfold wrap64; omega
    rw [if_pos (by omega), hw, if_pos (by omega), if_pos (by omega)]
    have e : decide (0 < i ∧ (ev l i).f0 < (ev l (i - 1)).f0) = decide ((zah l (i : Int)).f0 < (zah l ((i - 1 : Nat) : Int)).f0) := by
     rw [decide_eq_decide]
     exact ⟨fun h => h.2, fun h => ⟨by omega, h⟩⟩
    rw [e]
    rfl
 ·unfold wrongS
  cases rB (ev l i) with
  | false => simpa using Ev.now (2 : Int)
  | true =>
   have h := ev_w0 l i hi hg (decide (0 < i ∧ (ev l i).f0 < (ev l (i - 1)).f0))
   by_cases ht : 0 < i ∧ (ev l i).f0 < (ev l (i - 1)).f0
   ·rw [decide_eq_true ht] at h ⊢
    simp only [if_true] at h
    simp only [if_true, ht, and_self, reduceCtorEq, if_false]
    exact h
   ·rw [decide_eq_false ht] at h ⊢
    rw [if_neg (by decide)] at h
    rw [if_neg (by decide), if_neg ht]
    simp only [if_true]
    exact h
def chkS (l : List S47) : Nat → Nat → Int × Int
 | 0, _ => (0, 0)
 | d + 1, i => if wrongS l i = 0 then chkS l d (i + 1) else (wrongS l i, (i : Int) + 1)
theorem rchk_loop (l : List S47) (hg : Good l) : ∀ (d i : Nat), i + d = l.length → Ev (fun k => zbd.l0 k l (i : Int)) (chkS l d i)
 | 0, i, h => Ev.step (f := fun _ => some (0, 0)) (fun k => by simp only [zbd.l0]; rw [if_neg (by omega)]) (Ev.now _)
 | d + 1, i, h => by
  have ih := rchk_loop l hg d (i + 1) (by omega)
  have hl := hg.1
  refine Ev.step (f := fun k => (zar.f k l (i : Int)).bind fun t293 => (if t293 = 0 then zbd.l0 k l ((i + 1 : Nat) : Int) else some (t293, (i : Int) + 1))) (fun k => ?_) (Ev.bind (ev_wrong l i (by omega) hg) ?_)
  ·simp only [zbd.l0]
   rw [if_pos (by omega), show wrap64 ((i : Int) + 1) = (i : Int) + 1 from by unfold wrap64; omega]
   rfl
  ·simp only [chkS]
   by_cases h0 : wrongS l i = 0
   ·simp only [h0, if_true]
    exact ih
   ·simp only [h0, if_false]
    exact Ev.now _
theorem ev_rcheck (l : List S47) (hg : Good l) : Ev (fun k => zbd.f k l) (chkS l l.length 0) := rchk_loop l hg l.length 0 (by omega)
end Go.Proofs.YtikmmigfdchcpaaDoor.PP
