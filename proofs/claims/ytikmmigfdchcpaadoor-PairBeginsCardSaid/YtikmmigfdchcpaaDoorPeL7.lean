/-
  Proved: a part of the proof of the claim's statement (text L7 of it).
  Conditions: none of ours.
-/
import Derived.Test.YtikmmigfdchcpaaDoorPeQ0
import Derived.Test.YtikmmigfdchcpaaDoorPeL6
namespace Go.Proofs.YtikmmigfdchcpaaDoor.PP
open Go.RowKit Go.Proofs.YtikmmigfdchcpaaDoorW.PrintWords Go.Proofs.YtikmmigfdchcpaaDoorW.PrintLast Go.Proofs.YtikmmigfdchcpaaDoorW.PrintMore
set_option linter.unusedVariables false
set_option linter.unusedSimpArgs false
theorem mem_opS {l : List S47} {j : Nat} {x : S41} (h : x ∈ opS l j) : (ev l j).f2 = 1 ∧ x.f6 = (j : Int) ∧ x.f0 = (ev l j).f1 ∧
  ((∃ q : Nat, nx l j q ∧ q < l.length ∧ (ev l q).f2 = 2 ∧ x.f7 = (q : Int) ∧ x = opRow l j (ev l q).f7 (q : Int)) ∨ (x.f7 = -1 ∧ x = opRow l j [] (-1) ∧ ∀ q, nx l j q → q < l.length → ¬ (ev l q).f2 = 2 ∧ ¬ (ev l q).f2 = 3)) := by
 unfold opS at h
 by_cases h1 : (ev l j).f2 = 1
 ·rw [if_pos h1] at h
  cases hq : nxt l l.length j with
  | none =>
   rw [hq] at h
   replace h : x ∈ [opRow l j [] (-1)] := h
   rw [List.mem_singleton] at h
   subst h
   exact ⟨h1, rfl, rfl, Or.inr ⟨rfl, rfl, fun q hn hl => absurd hn (nxt_none.1 hq q hl)⟩⟩
  | some q =>
   obtain ⟨hn, hl⟩ := nxt_iff.1 hq
   rw [hq] at h
   replace h : x ∈ (if (ev l q).f2 = 3 then [] else if (ev l q).f2 = 2 then [opRow l j (ev l q).f7 (q : Int)] else [opRow l j [] (-1)]) := h
   by_cases h3 : (ev l q).f2 = 3
   ·rw [if_pos h3] at h; cases h
   ·rw [if_neg h3] at h
    by_cases h2 : (ev l q).f2 = 2
    ·rw [if_pos h2, List.mem_singleton] at h
     subst h
     exact ⟨h1, rfl, rfl, Or.inl ⟨q, hn, hl, h2, rfl, rfl⟩⟩
    ·rw [if_neg h2, List.mem_singleton] at h
     subst h
     exact ⟨h1, rfl, rfl, Or.inr ⟨rfl, rfl, fun p hp _ => by rw [nx_right hp hn]; exact ⟨h2, h3⟩⟩⟩
 ·rw [if_neg h1] at h; cases h
theorem mem_opsF {l : List S47} {x : S41} : ∀ {d i : Nat}, x ∈ opsF l d i → ∃ j, i ≤ j ∧ j < i + d ∧ x ∈ opS l j
 | 0, i, h => by cases h
 | d + 1, i, h => by
  rcases List.mem_append.1 h with h | h
  ·exact ⟨i, Nat.le_refl _, by omega, h⟩
  ·obtain ⟨j, h1, h2, h3⟩ := mem_opsF h
   exact ⟨j, by omega, by omega, h3⟩
end Go.Proofs.YtikmmigfdchcpaaDoor.PP
