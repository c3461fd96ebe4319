/-
  Proved: a part of the proof of the claim's statement (text L7 of it).
  Conditions: none of ours.
-/
import Derived.Test.YtikmmigfdchcpaaDoorPcQ0
import Derived.Test.YtikmmigfdchcpaaDoorPcL6
namespace Go.Proofs.YtikmmigfdchcpaaDoor.PP
open Go.RowKit Go.Proofs.YtikmmigfdchcpaaDoorW.PrintWords Go.Proofs.YtikmmigfdchcpaaDoorW.PrintLast Go.Proofs.YtikmmigfdchcpaaDoorW.PrintMore
set_option linter.unusedVariables false
set_option linter.unusedSimpArgs false
theorem wrong_zero {l : List S47} {n : Nat} (h : wrongS l n = 0) : rB (ev l n) = true ∧ ((ev l n).f2 = 1 → busyAt l (ev l n).f1 n = false ∧ lostAt l (ev l n).f1 n = false) ∧ (¬ (ev l n).f2 = 1 → busyAt l (ev l n).f1 n = true) := by
 unfold wrongS at h
 cases hr : rB (ev l n) with
 | false => rw [hr, if_pos rfl] at h; cases h
 | true =>
  rw [hr, if_neg (by decide)] at h
  by_cases ht : 0 < n ∧ (ev l n).f0 < (ev l (n - 1)).f0
  ·rw [if_pos ht] at h; cases h
  ·rw [if_neg ht] at h
   refine ⟨rfl, fun h1 => ?_, fun h1 => ?_⟩
   ·rw [if_pos h1] at h
    cases hb : busyAt l (ev l n).f1 n with
    | true => rw [hb, if_pos rfl] at h; cases h
    | false =>
     rw [hb, if_neg (by decide)] at h
     cases hl : lostAt l (ev l n).f1 n with
     | true => rw [hl, if_pos rfl] at h; cases h
     | false => exact ⟨rfl, rfl⟩
   ·rw [if_neg h1] at h
    cases hb : busyAt l (ev l n).f1 n with
    | true => rfl
    | false => rw [hb, if_neg (by decide)] at h; cases h
theorem mem_opS {l : List S47} {j : Nat} {x : S41} (h : x ∈ opS l j) : (ev l j).f2 = 1 ∧ x.f6 = (j : Int) ∧ x.f0 = (ev l j).f1 ∧
  ((∃ q : Nat, nx l j q ∧ q < l.length ∧ (ev l q).f2 = 2 ∧ x.f7 = (q : Int) ∧ x = opRow l j (ev l q).f7 (q : Int)) ∨ (x.f7 = -1 ∧ x = opRow l j [] (-1) ∧ ∀ q, nx l j q → q < l.length → ¬ (ev l q).f2 = 2 ∧ ¬ (ev l q).f2 = 3)) := by
 unfold opS at h
 by_cases h1 : (ev l j).f2 = 1
 ·rw [if_pos h1] at h
  cases hq : nxt l l.length j with
  | none =>
   rw [hq] at h
   replace h : x ∈ [opRow l j [] (-1)] := h
   rw [List.mem_singleton] at h
   subst h
   exact ⟨h1, rfl, rfl, Or.inr ⟨rfl, rfl, fun q hn hl => absurd hn (nxt_none.1 hq q hl)⟩⟩
  | some q =>
   obtain ⟨hn, hl⟩ := nxt_iff.1 hq
   rw [hq] at h
   replace h : x ∈ (if (ev l q).f2 = 3 then [] else if (ev l q).f2 = 2 then [opRow l j (ev l q).f7 (q : Int)] else [opRow l j [] (-1)]) := h
   by_cases h3 : (ev l q).f2 = 3
   ·rw [if_pos h3] at h; cases h
   ·rw [if_neg h3] at h
    by_cases h2 : (ev l q).f2 = 2
    ·rw [if_pos h2, List.mem_singleton] at h
     subst h
     exact ⟨h1, rfl, rfl, Or.inl ⟨q, hn, hl, h2, rfl, rfl⟩⟩
    ·rw [if_neg h2, List.mem_singleton] at h
     subst h
     exact ⟨h1, rfl, rfl, Or.inr ⟨rfl, rfl, fun p hp _ => by rw [nx_right hp hn]; exact ⟨h2, h3⟩⟩⟩
 ·rw [if_neg h1] at h; cases h
theorem mem_opsF {l : List S47} {x : S41} : ∀ {d i : Nat}, x ∈ opsF l d i → ∃ j, i ≤ j ∧ j < i + d ∧ x ∈ opS l j
 | 0, i, h => by cases h
 | d + 1, i, h => by
  rcases List.mem_append.1 h with h | h
  ·exact ⟨i, Nat.le_refl _, by omega, h⟩
  ·obtain ⟨j, h1, h2, h3⟩ := mem_opsF h
   exact ⟨j, by omega, by omega, h3⟩
theorem next_of {l : List S47} {i j : Nat} (h : i < j) (hc : ceq (ev l i).f1 (ev l j).f1 = true) : ∃ q, nx l i q ∧ q ≤ j := by
 cases g : nxt l (j + 1) i with
 | none =>
  have := nextN_none g j (by omega) (by omega)
  rw [ceq_symm hc] at this
  cases this
 | some q =>
  obtain ⟨g1, g2⟩ := nxt_iff.1 g
  exact ⟨q, g1, by omega⟩
theorem nx_ceq {l : List S47} {a q : Nat} (h : nx l a q) : ceq (ev l a).f1 (ev l q).f1 = true := (zb7 h).2.1
theorem turn_of {l : List S47} (hw : ∀ j, j < l.length → wrongS l j = 0) {i j : Nat} (hij : i < j) (hj : j < l.length) {x y : S41} (hx : x ∈ opS l i) (hy : y ∈ opS l j) (hc : ceq x.f0 y.f0 = true) : 0 ≤ x.f7 ∧ x.f7 < y.f6 := by
 obtain ⟨x1, x6, x0, xr⟩ := mem_opS hx
 obtain ⟨y1, y6, y0, _⟩ := mem_opS hy
 rw [x0, y0] at hc
 obtain ⟨q, hq, hqj⟩ := next_of hij hc
 have hql : q < l.length := by omega
 obtain ⟨r1, r2, r3⟩ := wrong_zero (hw q hql)
 have hq1 : ¬ (ev l q).f2 = 1 := by
  intro e
  have := (r2 e).1
  rw [busyAt_iff.2 ⟨i, hq, x1⟩] at this
  cases this
 have hne : q < j := by
  rcases Nat.lt_or_ge q j with h | h
  ·exact h
  ·have : q = j := by omega
   rw [this] at hq1
   exact absurd y1 hq1
 rcases xr with ⟨p, hp, hpl, h2, e7, _⟩ | ⟨_, _, hno⟩
 ·have := nx_right hp hq
  subst this
  rw [e7, y6]
  omega
 ·exfalso
  obtain ⟨n2, n3⟩ := hno q hq hql
  have h4 : (ev l q).f2 = 4 := by
   rcases rB_type r1 hq1 with h | h | h
   ·exact absurd h n2
   ·exact absurd h n3
   ·exact h
  obtain ⟨p, hp, hpj⟩ := next_of hne (ceq_trans (ceq_symm (nx_ceq hq)) hc)
  obtain ⟨s1, s2, s3⟩ := wrong_zero (hw p (by omega))
  by_cases hp1 : (ev l p).f2 = 1
  ·have := (s2 hp1).2
   unfold lostAt at this
   rw [show lastC l (ev l p).f1 p = some q from hp] at this
   simp only [h4] at this
   cases this
  ·have := s3 hp1
   obtain ⟨b, hb, hb1⟩ := busyAt_iff.1 this
   have : b = q := Option.some.inj (hb.symm.trans hp)
   subst this
   exact hq1 hb1
def TurnR (a b : S41) : Prop := a.f6 < b.f6 ∧ (ceq a.f0 b.f0 = true → 0 ≤ a.f7 ∧ a.f7 < b.f6)
theorem turns_pair {l : List S47} (hw : ∀ j, j < l.length → wrongS l j = 0) : ∀ (d i : Nat), i + d = l.length → (opsF l d i).Pairwise TurnR
 | 0, i, h => List.Pairwise.nil
 | d + 1, i, h => by
  simp only [opsF]
  rw [List.pairwise_append]
  refine ⟨?_, turns_pair hw d (i + 1) (by omega), fun x hx y hy => ?_⟩
  ·have : (opS l i).length ≤ 1 := by
    unfold opS
    split
    ·split
     ·split
      ·simp
      ·split <;> simp
     ·simp
    ·simp
   match g : opS l i, this with
   | [], _ => exact List.Pairwise.nil
   | [a], _ => exact List.pairwise_singleton _ _
  ·obtain ⟨j, h1, h2, h3⟩ := mem_opsF hy
   have hx6 := (mem_opS hx).2.1
   have hy6 := (mem_opS h3).2.1
   exact ⟨by omega, fun hc => turn_of hw (by omega) (by omega) hx h3 hc⟩
theorem turns_each {l : List S47} {x : S41} (h : x ∈ opsF l l.length 0) : 0 ≤ x.f6 ∧ x.f6 < (l.length : Int) ∧ (x.f7 = -1 ∨ (x.f6 < x.f7 ∧ x.f7 < (l.length : Int))) := by
 obtain ⟨j, h1, h2, h3⟩ := mem_opsF h
 obtain ⟨_, h6, _, hr⟩ := mem_opS h3
 refine ⟨by omega, by omega, ?_⟩
 rcases hr with ⟨q, hq, hql, _, e, _⟩ | ⟨e, _⟩
 ·have := nx_lt hq
  right
  omega
 ·exact Or.inl e
theorem turns_at {l : List S47} (hw : ∀ j, j < l.length → wrongS l j = 0) {p q : Nat} (hpq : p < q) (hq : q < (opsF l l.length 0).length) : TurnR (zbl (opsF l l.length 0) (p : Int)) (zbl (opsF l l.length 0) (q : Int)) := by
 have h := List.pairwise_iff_getElem.1 (turns_pair hw l.length 0 (by omega)) p q (by omega) hq hpq
 simp only [zbl, Int.toNat_natCast, List.getD_eq_getElem?_getD, List.getElem?_eq_getElem (show p < (opsF l l.length 0).length by omega), List.getElem?_eq_getElem hq, Option.getD_some]
 exact h
end Go.Proofs.YtikmmigfdchcpaaDoor.PP
