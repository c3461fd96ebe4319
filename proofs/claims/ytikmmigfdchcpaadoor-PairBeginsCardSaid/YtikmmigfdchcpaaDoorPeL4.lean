/-
  Proved: a part of the proof of the claim's statement (text L4 of it).
  Conditions: none of ours.
-/
import Derived.Test.YtikmmigfdchcpaaDoorPeQ0
import Derived.Test.YtikmmigfdchcpaaDoorPeL3
import Derived.Test.YtikmmigfdchcpaaDoorPeC
import Derived.Test.YtikmmigfdchcpaaDoorPeQ1
import Derived.Test.YtikmmigfdchcpaaDoorPeQ41
import Derived.Test.YtikmmigfdchcpaaDoorPeS
namespace Go.Proofs.YtikmmigfdchcpaaDoor.PP
open Go.RowKit Go.Proofs.YtikmmigfdchcpaaDoorW.PrintWords Go.Proofs.YtikmmigfdchcpaaDoorW.PrintLast Go.Proofs.YtikmmigfdchcpaaDoorW.PrintMore
set_option linter.unusedVariables false
set_option linter.unusedSimpArgs false
def ev (l : List S47) (j : Nat) : S47 := zav l (j : Int)
def ceq (a b : S38) : Bool := a.f0 == b.f0 && (a.f1 == b.f1 && (a.f2.toList == b.f2.toList))
theorem ceq_iff {a b : S38} : ceq a b = true ↔ a.f0 = b.f0 ∧ a.f1 = b.f1 ∧ a.f2.toList = b.f2.toList := by
 unfold ceq
 rw [Bool.and_eq_true, Bool.and_eq_true, beq_iff_eq, beq_iff_eq, beq_iff_eq]
theorem ceq_symm {a b : S38} (h : ceq a b = true) : ceq b a = true := by
 rw [ceq_iff] at h ⊢
 exact ⟨h.1.symm, h.2.1.symm, h.2.2.symm⟩
theorem ceq_trans {a b c : S38} (h : ceq a b = true) (k : ceq b c = true) : ceq a c = true := by
 rw [ceq_iff] at h k ⊢
 exact ⟨h.1.trans k.1, h.2.1.trans k.2.1, h.2.2.trans k.2.2⟩
theorem ceq_key {a b : S38} (ha : keyOk a = true) (hb : keyOk b = true) : zbd a = zbd b ↔ ceq a b = true := by
 rw [ceq_iff, ByteArray.toList_eq, ByteArray.toList_eq]
 constructor
 ·exact keyLit_inj ha hb
 ·rintro ⟨h1, h2, h3⟩
  unfold zbd
  rw [h1, h2, h3]
def lastC (l : List S47) (x : S38) : Nat → Option Nat
 | 0 => none
 | n + 1 => if ceq (ev l n).f1 x = true then some n else lastC l x n
theorem zbz {l : List S47} {x : S38} : ∀ {n a : Nat}, lastC l x n = some a → a < n ∧ ceq (ev l a).f1 x = true ∧ ∀ j, a < j → j < n → ceq (ev l j).f1 x = false
 | 0, a, h => by cases h
 | n + 1, a, h => by
  unfold lastC at h
  split at h
  ·next hc =>
   obtain rfl := Option.some.inj h
   exact ⟨by omega, hc, fun j h1 h2 => by omega⟩
  ·next hc =>
   obtain ⟨h1, h2, h3⟩ := zbz h
   refine ⟨by omega, h2, fun j h4 h5 => ?_⟩
   by_cases e : j = n
   ·subst e; exact Bool.eq_false_iff.mpr hc
   ·exact h3 j h4 (by omega)
theorem lastC_none {l : List S47} {x : S38} : ∀ {n : Nat}, lastC l x n = none → ∀ j, j < n → ceq (ev l j).f1 x = false
 | 0, h, j, hj => by omega
 | n + 1, h, j, hj => by
  unfold lastC at h
  split at h
  ·cases h
  ·next hc =>
   by_cases e : j = n
   ·subst e; exact Bool.eq_false_iff.mpr hc
   ·exact lastC_none h j (by omega)
theorem lastC_of {l : List S47} {x : S38} {n a : Nat} (h1 : a < n) (h2 : ceq (ev l a).f1 x = true) (h3 : ∀ j, a < j → j < n → ceq (ev l j).f1 x = false) : lastC l x n = some a := by
 cases h : lastC l x n with
 | none => have := lastC_none h a h1; rw [h2] at this; cases this
 | some b =>
  obtain ⟨g1, g2, g3⟩ := zbz h
  rcases Nat.lt_trichotomy a b with e | e | e
  ·have := h3 b e g1; rw [g2] at this; cases this
  ·rw [e]
  ·have := g3 a e h1; rw [h2] at this; cases this
theorem lastC_congr {l : List S47} {x y : S38} (h : ceq x y = true) : ∀ n, lastC l x n = lastC l y n
 | 0 => rfl
 | n + 1 => by
  have e : ceq (ev l n).f1 x = ceq (ev l n).f1 y := by
   rw [Bool.eq_iff_iff]
   exact ⟨fun g => ceq_trans g h, fun g => ceq_trans g (ceq_symm h)⟩
  simp only [lastC]
  rw [e, lastC_congr h n]
def nx (l : List S47) (a q : Nat) : Prop := lastC l (ev l q).f1 q = some a
theorem nx_lt {l : List S47} {a q : Nat} (h : nx l a q) : a < q := (zbz h).1
theorem nx_left {l : List S47} {a b q : Nat} (h : nx l a q) (k : nx l b q) : a = b := Option.some.inj (h.symm.trans k)
theorem nx_right {l : List S47} {a p q : Nat} (h : nx l a p) (k : nx l a q) : p = q := by
 obtain ⟨h1, h2, h3⟩ := zbz h
 obtain ⟨k1, k2, k3⟩ := zbz k
 rcases Nat.lt_trichotomy p q with e | e | e
 ·have := k3 p h1 e
  rw [ceq_trans (ceq_symm h2) k2] at this
  cases this
 ·exact e
 ·have := h3 q k1 e
  rw [ceq_trans (ceq_symm k2) h2] at this
  cases this
def nextN (l : List S47) (a : Nat) : Nat → Nat → Option Nat
 | 0, _ => none
 | d + 1, i => if ceq (ev l i).f1 (ev l a).f1 = true then some i else nextN l a d (i + 1)
theorem nextN_some {l : List S47} {a : Nat} : ∀ {d i q : Nat}, nextN l a d i = some q → i ≤ q ∧ q < i + d ∧ ceq (ev l q).f1 (ev l a).f1 = true ∧ ∀ j, i ≤ j → j < q → ceq (ev l j).f1 (ev l a).f1 = false
 | 0, i, q, h => by cases h
 | d + 1, i, q, h => by
  unfold nextN at h
  split at h
  ·next hc =>
   obtain rfl := Option.some.inj h
   exact ⟨Nat.le_refl _, by omega, hc, fun j h1 h2 => by omega⟩
  ·next hc =>
   obtain ⟨h1, h2, h3, h4⟩ := nextN_some h
   refine ⟨by omega, by omega, h3, fun j h5 h6 => ?_⟩
   by_cases e : j = i
   ·subst e; exact Bool.eq_false_iff.mpr hc
   ·exact h4 j (by omega) h6
theorem nextN_none {l : List S47} {a : Nat} : ∀ {d i : Nat}, nextN l a d i = none → ∀ j, i ≤ j → j < i + d → ceq (ev l j).f1 (ev l a).f1 = false
 | 0, i, h, j, h1, h2 => by omega
 | d + 1, i, h, j, h1, h2 => by
  unfold nextN at h
  split at h
  ·cases h
  ·next hc =>
   by_cases e : j = i
   ·subst e; exact Bool.eq_false_iff.mpr hc
   ·exact nextN_none h j (by omega) (by omega)
def nxt (l : List S47) (n a : Nat) : Option Nat := nextN l a (n - (a + 1)) (a + 1)
theorem nxt_iff {l : List S47} {n a q : Nat} : nxt l n a = some q ↔ nx l a q ∧ q < n := by
 unfold nxt nx
 constructor
 ·intro h
  obtain ⟨h1, h2, h3, h4⟩ := nextN_some h
  refine ⟨lastC_of (by omega) (ceq_symm h3) (fun j h5 h6 => ?_), by omega⟩
  have := h4 j (by omega) h6
  rw [Bool.eq_false_iff] at this ⊢
  intro e
  exact this (ceq_trans e h3)
 ·rintro ⟨h, hq⟩
  obtain ⟨h1, h2, h3⟩ := zbz h
  cases g : nextN l a (n - (a + 1)) (a + 1) with
  | none =>
   have := nextN_none g q (by omega) (by omega)
   rw [ceq_symm h2] at this
   cases this
  | some p =>
   have hp : nx l a p := by
    obtain ⟨g1, g2, g3, g4⟩ := nextN_some g
    refine lastC_of (by omega) (ceq_symm g3) (fun j h5 h6 => ?_)
    have := g4 j (by omega) h6
    rw [Bool.eq_false_iff] at this ⊢
    intro e
    exact this (ceq_trans e g3)
   rw [nx_right hp h]
theorem nxt_none {l : List S47} {n a : Nat} : nxt l n a = none ↔ ∀ q, q < n → ¬ nx l a q := by
 constructor
 ·intro h q hq hn
  rw [nxt_iff.2 ⟨hn, hq⟩] at h
  cases h
 ·intro h
  cases g : nxt l n a with
  | none => rfl
  | some q =>
   obtain ⟨g1, g2⟩ := nxt_iff.1 g
   exact absurd g1 (h q g2)
def busyAt (l : List S47) (x : S38) (n : Nat) : Bool := match lastC l x n with
 | some j => (ev l j).f2 == 1
 | none => false
def lostAt (l : List S47) (x : S38) (n : Nat) : Bool := match lastC l x n with
 | some j => (ev l j).f2 == 4
 | none => false
def outsAt (l : List S47) (n : Nat) : Bool := match lastC l (ev l n).f1 n with
 | some j => outB (ev l j).f3 (ev l j).f5 (ev l n).f7
 | none => false
def wrongS (l : List S47) (n : Nat) : Int :=
 if rB (ev l n) = false then 2
 else if 0 < n ∧ (ev l n).f0 < (ev l (n - 1)).f0 then 4
 else if (ev l n).f2 = 1 then (if busyAt l (ev l n).f1 n = true then 4 else if lostAt l (ev l n).f1 n = true then 4 else 0)
 else if busyAt l (ev l n).f1 n = true then (if (ev l n).f2 = 2 then (if outsAt l n = true then 0 else 4) else 0) else 4
def Good (l : List S47) : Prop := l.length ≤ 1000 ∧ ∀ x ∈ l, Ok47 x ∧ keyOk x.f1 = true
theorem ev_mem {l : List S47} {i : Nat} (h : i < l.length) : ev l i ∈ l := by
 unfold ev
 simp only [zav, Int.toNat_natCast, List.getD_eq_getElem?_getD, List.getElem?_eq_getElem h, Option.getD_some]
 exact List.getElem_mem h
def chkS (l : List S47) : Nat → Nat → Int × Int
 | 0, _ => (0, 0)
 | d + 1, i => if wrongS l i = 0 then chkS l d (i + 1) else (wrongS l i, (i : Int) + 1)
end Go.Proofs.YtikmmigfdchcpaaDoor.PP
