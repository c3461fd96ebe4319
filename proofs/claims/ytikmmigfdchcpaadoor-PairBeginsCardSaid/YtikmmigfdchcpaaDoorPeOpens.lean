import Derived.Deep.Slices
import Derived.Deep.Fields
import Derived.SizedLaws
import Derived.ChangeSame
import Derived.Test.YtikmmigfdchcpaaDoorPeWAll
/-
  Proved: a part of the proof of the claim's statement (text Opens of it).
  Conditions: none of ours.
-/
namespace Go.Proofs.YtikmmigfdchcpaaDoor.Opens
open Go.RowKit Go.Proofs.YtikmmigfdchcpaaDoorW.PrintWords Go.ChangeShapes Go.WideShapes
set_option linter.unusedVariables false
theorem listOf {α : Type} {Q : Nat → α → Prop} : ∀ n : Nat, (∀ i, i < n → ∃ y, Q i y) → ∃ l : List α, l.length = n ∧ ∀ i y, l[i]? = some y → Q i y
 | 0, _ => ⟨[], rfl, fun i y h => by simp at h⟩
 | n + 1, h => by
  obtain ⟨l, hl, hq⟩ := listOf n (fun i hi => h i (by omega))
  obtain ⟨y, hy⟩ := h n (by omega)
  refine ⟨l ++ [y], by simp [hl], fun i z hz => ?_⟩
  rcases Nat.lt_or_ge i n with hi | hi
  ·rw [List.getElem?_append_left (by omega)] at hz
   exact hq i z hz
  ·rw [List.getElem?_append_right (by omega)] at hz
   have hi' : i = n := by
    rcases Nat.lt_or_ge (i - l.length) 1 with h1 | h1
    ·omega
    ·rw [List.getElem?_eq_none (by simpa using h1)] at hz
     cases hz
   subst hi'
   rw [hl] at hz
   simp at hz
   rw [← hz]
   exact hy
section
variable {H : Type} {P : Program}
theorem all_append {l m : List Nat} (h : (l ++ m).all (· ≤ reachBytes) = true) : l.all (· ≤ reachBytes) = true ∧ m.all (· ≤ reachBytes) = true := by
 rw [List.all_append, Bool.and_eq_true] at h
 exact h
theorem all_of_All {e : TypeId} : ∀ {l : List (DataW H)}, (DataW.weightsAll P e l).all (· ≤ reachBytes) = true → ∀ d ∈ l, (DataW.weights P e d).all (· ≤ reachBytes) = true
 | [], _, d, hd => by simp at hd
 | x :: r, h, d, hd => by
  unfold DataW.weightsAll at h
  obtain ⟨h1, h2⟩ := all_append h
  rcases List.mem_cons.1 hd with rfl | hd
  ·exact h1
  ·exact all_of_All h2 d hd
theorem all_of_Each : ∀ {ts : List TypeId} {l : List (DataW H)}, (DataW.weightsEach P ts l).all (· ≤ reachBytes) = true → ∀ (i : Nat) t d, ts[i]? = some t → l[i]? = some d → (DataW.weights P t d).all (· ≤ reachBytes) = true
 | [], l, _, i, t, d, ht, _ => by simp at ht
 | t0 :: ts, [], _, i, t, d, _, hd => by simp at hd
 | t0 :: ts, x :: r, h, i, t, d, ht, hd => by
  unfold DataW.weightsEach at h
  obtain ⟨h1, h2⟩ := all_append h
  cases i with
  | zero =>
   simp only [List.getElem?_cons_zero, Option.some.injEq] at ht hd
   subst ht
   subst hd
   exact h1
  | succ i =>
   simp only [List.getElem?_cons_succ] at ht hd
   exact all_of_Each h2 i t d ht hd
def Opens (P : Program) (H : Type) {α : Type} (t : TypeId) (d : Kd α) (Sm : α → Prop) : Prop :=
 ∀ (enc : TypeId × Value → H) (w : World) (base : Nat) (sp : Nat → Bool) (held : Bool) (fuel : Nat) (cs : List Value) (x : DataW H × List MemPlace),
  DataW.trod enc P w base sp held fuel t cs = some x → (x.1.weights P t).all (· ≤ reachBytes) = true → ∃ y : α, d.K w y cs ∧ Sm y
theorem opens_int {t : TypeId} {k : IntKind} (ht : P.underlying t = some (.int k)) : Opens P H t (Kd.int k) (fun n => (Lit.int k n).wf = true) := by
 intro enc w base sp held fuel cs x h _
 obtain ⟨n, rfl, _, hw⟩ := DataW.trod_int ht h
 exact ⟨n, rfl, hw⟩
theorem opens_bool {t : TypeId} (ht : P.underlying t = some .bool) : Opens P H t Kd.bool (fun _ => True) := by
 intro enc w base sp held fuel cs x h _
 obtain ⟨b, rfl, _⟩ := DataW.trod_bool ht h
 exact ⟨b, rfl, trivial⟩
theorem opens_string {t : TypeId} (ht : P.underlying t = some .string) : Opens P H t Kd.string (fun s => s.size ≤ 140737488351232) := by
 intro enc w base sp held fuel cs x h hw
 obtain ⟨s, rfl, rfl, _⟩ := DataW.trod_string ht h
 refine ⟨s, rfl, ?_⟩
 simp only [DataW.weights, List.all_cons, List.all_nil, Bool.and_true, Array.length_toList, reachBytes] at hw
 exact of_decide_eq_true hw
theorem opens_slice {α : Type} {t e : TypeId} {d : Kd α} {Sm : α → Prop} {B : Nat} (e' : Nat) (ht : P.underlying t = some (.slice e)) (hc : P.cellsOf e = d.sz) (hB : P.bytesOf e = B) (ho : Opens P H e d Sm) :
  Opens P H t (Kd.slice e' d) (fun l => l.length * B ≤ 140737488351232 ∧ ∀ y ∈ l, Sm y) := by
 intro enc w base sp held fuel cs x h hw
 rcases Go.Deep.open_slice ht h with ⟨rfl, rfl⟩ | ⟨a, len, cap, m, n, D, Pl, rfl, hb, hl, hm, hmm, rfl, hi⟩
 ·exact ⟨[], ⟨none, 0, rfl, Nat.le_refl _, Kd.C_nil _ _⟩, by simp, by simp⟩
 ·have hle : len ≤ m := by rw [hmm]; split <;> omega
  simp only [DataW.weights, ht] at hw
  rw [List.all_cons, Bool.and_eq_true] at hw
  obtain ⟨hw1, hw2⟩ := hw
  obtain ⟨hw3, _⟩ := all_append hw2
  have hel : ∀ i, i < len → ∃ y : α, ∃ cs', cs'.length = d.sz ∧ d.K w y cs' ∧ Sm y ∧ ∀ j u, cs'[j]? = some u → w.cell? (a.add (i * d.sz + j)) = some u := by
   intro i hlt
   obtain ⟨cs', hcs, htr⟩ := hi i (by omega)
   obtain ⟨_, hcl, hcell⟩ := World.cells?_some hcs
   obtain ⟨y, hK, hS⟩ := ho enc w base sp held n cs' _ htr (all_of_All hw3 _ (List.mem_map.2 ⟨i, by simpa using hlt, rfl⟩))
   refine ⟨y, cs', by rw [hcl, hc], hK, hS, fun j u hu => ?_⟩
   have hj : j < P.cellsOf e := by
    have := (List.getElem?_eq_some_iff.1 hu).1
    omega
   have h1 := hcell j hj
   rw [hu, Go.Deep.add_add, hc] at h1
   exact h1
  obtain ⟨l, hll, hq⟩ := listOf (Q := fun i (y : α) => ∃ cs', cs'.length = d.sz ∧ d.K w y cs' ∧ Sm y ∧ ∀ j u, cs'[j]? = some u → w.cell? (a.add (i * d.sz + j)) = some u) len hel
  refine ⟨l, ⟨some a, cap, by rw [hll], by omega, ?_⟩, ?_, fun y hy => ?_⟩
  ·refine ⟨rfl, by simp only [maxLen] at hm; omega, fun _ => ⟨a, rfl, fun j p hj => ?_⟩⟩
   obtain ⟨cs', h1, h2, _, h4⟩ := hq j p hj
   exact ⟨cs', h1, h2, h4⟩
  ·rw [hB] at hw1
   simp only [List.length_map, List.length_range, decide_eq_true_eq, reachBytes] at hw1
   refine Nat.le_trans (Nat.mul_le_mul_right _ ?_) hw1
   omega
  ·obtain ⟨i, hi'⟩ := List.getElem?_of_mem hy
   obtain ⟨_, _, _, h3, _⟩ := hq i y hi'
   exact h3
theorem all_field {fs : List TypeId} {xs : List (DataW H × List MemPlace)} (h : (DataW.weightsEach P fs (xs.map (·.1))).all (· ≤ reachBytes) = true) {i : Nat} {t : TypeId} {x : DataW H × List MemPlace} (ht : fs[i]? = some t) (hx : xs[i]? = some x) : (x.1.weights P t).all (· ≤ reachBytes) = true :=
 all_of_Each h i t x.1 ht (by rw [List.getElem?_map, hx]; rfl)
theorem field {α : Type} {d : Kd α} {Sm : α → Prop} {enc : TypeId × Value → H} {w : World} {base : Nat} {sp : Nat → Bool} {held : Bool} {n : Nat} {t : TypeId} {cs : List Value} {fs : List TypeId} {xs : List (DataW H × List MemPlace)} (ho : Opens P H t d Sm) (i : Nat)
  (hf : DataW.trod enc P w base sp held n t cs = xs[i]?) (hi : i < xs.length) (ht : fs[i]? = some t) (hw : (DataW.weightsEach P fs (xs.map (·.1))).all (· ≤ reachBytes) = true) : ∃ y : α, d.K w y cs ∧ Sm y := by
 rw [List.getElem?_eq_getElem hi] at hf
 exact ho enc w base sp held n cs _ hf (all_field hw ht (List.getElem?_eq_getElem hi))
theorem fieldAt {α : Type} {d : Kd α} {Sm : α → Prop} {enc : TypeId × Value → H} {w : World} {base : Nat} {sp : Nat → Bool} {held : Bool} {n : Nat} {t : TypeId} {cs : List Value} {fs : List TypeId} {xs : List (DataW H × List MemPlace)} (ho : Opens P H t d Sm) (i off sz : Nat) (hc : P.cellsOf t = sz)
  (hf : DataW.trod enc P w base sp held n t ((cs.drop off).take (P.cellsOf t)) = xs[i]?) (hi : i < xs.length) (ht : fs[i]? = some t) (hw : (DataW.weightsEach P fs (xs.map (·.1))).all (· ≤ reachBytes) = true) : ∃ y : α, d.K w y ((cs.drop off).take sz) ∧ Sm y := by
 rw [hc] at hf
 exact field ho i hf hi ht hw
end
end Go.Proofs.YtikmmigfdchcpaaDoor.Opens
