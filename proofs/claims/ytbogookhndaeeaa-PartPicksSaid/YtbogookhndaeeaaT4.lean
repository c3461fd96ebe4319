/-
  Proved: the plain law behind PartPicks, with no program in sight.
  Conditions: none of ours (the form's own reach alone).
-/
import Derived.Test.YtbogookhndaeeaaQ3
import Derived.Test.YtbogookhndaeeaaQ6
import Derived.Test.YtbogookhndaeeaaQ9
import Derived.Test.YtbogookhndaeeaaQ10
namespace Go.Proofs.Ytbogookhndaeeaa.PP
open Go.RowKit Go.Proofs.YtbogookhndaeeaaW.PrintWords Go.Proofs.YtbogookhndaeeaaW.PrintLast Go.Proofs.YtbogookhndaeeaaW.PrintMore
set_option linter.unusedVariables false
/-- What stands at a place, if it is one. -/
def pickAt (l0 : List S32) (i : Int) : List S32 := if 0 ≤ i then (if i < (l0.length : Int) then [rd_T32 l0 i] else []) else []
def picks (l0 : List S32) (l1 : List Int) : List S32 := l1.flatMap (pickAt l0)
theorem pickAt_len (l0 : List S32) (i : Int) : (pickAt l0 i).length ≤ 1 := by
  unfold pickAt
  split
  · split <;> simp
  · simp
theorem picks_len (l0 : List S32) : ∀ l1 : List Int, (picks l0 l1).length ≤ l1.length
  | [] => by simp [picks]
  | i :: r => by
    have h1 := pickAt_len l0 i
    have h2 := picks_len l0 r
    simp only [picks, List.flatMap_cons, List.length_append, List.length_cons] at h2 ⊢
    omega
theorem picks_mem {l0 : List S32} {l1 : List Int} {x : S32} (h : x ∈ picks l0 l1) : x ∈ l0 := by
  simp only [picks, List.mem_flatMap] at h
  obtain ⟨i, _, hx⟩ := h
  unfold pickAt at hx
  split at hx
  · split at hx
    · simp only [List.mem_singleton] at hx
      subst hx
      have hl : i.toNat < l0.length := by omega
      simp only [rd_T32, List.getD_eq_getElem?_getD, List.getElem?_eq_getElem hl, Option.getD_some]
      exact List.getElem_mem hl
    · simp at hx
  · simp at hx
theorem picks_drop (l0 : List S32) (l1 : List Int) (i : Int) (h0 : 0 ≤ i) (h1 : i < (l1.length : Int)) : picks l0 (l1.drop i.toNat) = pickAt l0 (rd l1 i) ++ picks l0 (l1.drop (i + 1).toNat) := by
  have hl : i.toNat < l1.length := by omega
  have e : (i + 1).toNat = i.toNat + 1 := by omega
  rw [e, List.drop_eq_getElem_cons hl]
  simp only [picks, List.flatMap_cons, rd, List.getD_eq_getElem?_getD, List.getElem?_eq_getElem hl, Option.getD_some]
theorem wrap_next {i : Int} (h0 : 0 ≤ i) (h1 : i < 1000) : wrap64 (i + 1) = i + 1 := by unfold wrap64; omega

theorem refPick_loop (l0 : List S32) (l1 : List Int) (hl : l1.length ≤ 100) (d : Nat) : ∀ (k : Nat) (i : Int) (acc : List S32), 0 ≤ i → i ≤ l1.length → (l1.length : Int) - i = d → d < k → acc.length ≤ i.toNat →
    incognitoref19_Pick.l0 k l0 l1 acc i = some (acc ++ picks l0 (l1.drop i.toNat)) := by
  induction d with
  | zero =>
    intro k i acc h0 h1 hd hk ha
    obtain ⟨k, rfl⟩ : ∃ m, k = m + 1 := ⟨k - 1, by omega⟩
    simp only [incognitoref19_Pick.l0]
    rw [if_neg (by omega), List.drop_eq_nil_of_le (by omega)]
    simp [picks]
  | succ d ih =>
    intro k i acc h0 h1 hd hk ha
    obtain ⟨k, rfl⟩ : ∃ m, k = m + 1 := ⟨k - 1, by omega⟩
    have hlt : i < (l1.length : Int) := by omega
    have hp := picks_drop l0 l1 i h0 hlt
    simp only [incognitoref19_Pick.l0]
    rw [if_pos hlt, if_pos h0, wrap_next h0 (by omega), hp]
    unfold pickAt
    by_cases c1 : rd l1 i ≥ 0
    · rw [if_pos c1]
      by_cases c2 : rd l1 i < (l0.length : Int)
      · rw [if_pos c2, if_pos (show 0 ≤ rd l1 i from c1), if_pos (show acc.length < 977343669134 by omega), if_pos (show 0 ≤ rd l1 i from c1), if_pos c2, ih k (i + 1) _ (by omega) (by omega) (by omega) (by omega) (by simp; omega)]
        simp
      · rw [if_neg c2, if_pos (show 0 ≤ rd l1 i from c1), if_neg c2, ih k (i + 1) _ (by omega) (by omega) (by omega) (by omega) (by omega)]
        simp
    · rw [if_neg c1, if_neg (show ¬ 0 ≤ rd l1 i from c1), ih k (i + 1) _ (by omega) (by omega) (by omega) (by omega) (by omega)]
      simp
theorem refPick_eq (l0 : List S32) (l1 : List Int) (hl : l1.length ≤ 100) (k : Nat) (hk : 100 < k) : incognitoref19_Pick.f k l0 l1 = some (picks l0 l1) := by
  unfold incognitoref19_Pick.f
  rw [refPick_loop l0 l1 hl l1.length k 0 [] (by omega) (by omega) (by omega) (by omega) (by simp)]
  simp
def Small (l0 : List S32) : Prop := ∀ x ∈ l0, x.f4.length < 4398046511104 ∧ x.f5.length < 4398046511104
theorem rd_mem {l0 : List S32} {i : Int} (h0 : 0 ≤ i) (h1 : i < (l0.length : Int)) : rd_T32 l0 i ∈ l0 := by
  have hl : i.toNat < l0.length := by omega
  simp only [rd_T32, List.getD_eq_getElem?_getD, List.getElem?_eq_getElem hl, Option.getD_some]
  exact List.getElem_mem hl
theorem pick_loop (l0 : List S32) (hs : Small l0) (l1 : List Int) (hl : l1.length ≤ 100) (d : Nat) : ∀ (k : Nat) (i : Int) (acc : List S32), 0 ≤ i → i ≤ l1.length → (l1.length : Int) - i = d → 2 * d < k → acc.length ≤ i.toNat →
    part_Pick.l0 k l0 acc l1 (l1.length : Int) i = some (acc ++ picks l0 (l1.drop i.toNat)) := by
  induction d with
  | zero =>
    intro k i acc h0 h1 hd hk ha
    obtain ⟨k, rfl⟩ : ∃ m, k = m + 1 := ⟨k - 1, by omega⟩
    simp only [part_Pick.l0]
    rw [if_neg (by omega), List.drop_eq_nil_of_le (by omega)]
    simp [picks]
  | succ d ih =>
    intro k i acc h0 h1 hd hk ha
    obtain ⟨k, rfl⟩ : ∃ m, k = m + 2 := ⟨k - 2, by omega⟩
    have hlt : i < (l1.length : Int) := by omega
    have hp := picks_drop l0 l1 i h0 hlt
    rw [hp]
    have hj : ∀ b : Bool, part_Pick.j1 (k + 1) l0 acc (rd l1 i) l1 (l1.length : Int) i b = if b = true then part_Pick.l0 k l0 acc l1 (l1.length : Int) (i + 1) else (if 0 ≤ rd l1 i then (if rd l1 i < (l0.length : Int) then part_Pick.l0 k l0 (acc ++ [rd_T32 l0 (rd l1 i)]) l1 (l1.length : Int) (i + 1) else none) else none) := by
      intro b
      simp only [part_Pick.j1, wrap_next h0 (show i < 1000 by omega)]
      cases b
      · simp only [Bool.false_eq_true, if_false]
        by_cases c1 : 0 ≤ rd l1 i
        · rw [if_pos c1, if_pos c1]
          by_cases c2 : rd l1 i < (l0.length : Int)
          · have hm := hs _ (rd_mem c1 c2)
            rw [if_pos c2, if_pos c2]
            unfold api_Value.f
            rw [if_pos hm.1, if_pos hm.2]
            simp only [Option.bind_some]
            rw [if_pos (show acc.length < 977343669134 by omega)]
          · rw [if_neg c2, if_neg c2]
        · rw [if_neg c1, if_neg c1]
      · rfl
    rw [show part_Pick.l0 (k + 2) l0 acc l1 (l1.length : Int) i = if i < (l1.length : Int) then (if 0 ≤ i then (if i < (l1.length : Int) then (if (rd l1 i) < 0 then (part_Pick.j1 (k + 1) l0 acc (rd l1 i) l1 (l1.length : Int) i true) else (part_Pick.j1 (k + 1) l0 acc (rd l1 i) l1 (l1.length : Int) i (decide ((rd l1 i) ≥ (l0.length : Int))))) else (none)) else (none)) else (some acc) from rfl]
    rw [if_pos hlt, if_pos h0, if_pos hlt]
    unfold pickAt
    by_cases c1 : rd l1 i < 0
    · rw [if_pos c1, hj, if_pos rfl, if_neg (by omega), ih k (i + 1) _ (by omega) (by omega) (by omega) (by omega) (by omega)]
      simp
    · rw [if_neg c1, hj, if_pos (show 0 ≤ rd l1 i by omega)]
      by_cases c2 : rd l1 i < (l0.length : Int)
      · rw [if_neg (by simp; omega), if_pos c2, ih k (i + 1) _ (by omega) (by omega) (by omega) (by omega) (by simp; omega)]
        simp [c2, show 0 ≤ rd l1 i by omega]
      · rw [if_pos (by simp; omega), ih k (i + 1) _ (by omega) (by omega) (by omega) (by omega) (by omega)]
        simp [c2]
theorem pick_eq (l0 : List S32) (hs : Small l0) (l1 : List Int) (hl : l1.length ≤ 100) (k : Nat) (hk : 200 < k) : part_Pick.f k l0 l1 = some (picks l0 l1) := by
  unfold part_Pick.f
  rw [pick_loop l0 hs l1 hl l1.length k 0 [] (by omega) (by omega) (by omega) (by omega) (by simp)]
  simp
theorem vals_loop (l : List S29) (hl : l.length ≤ 9223372036854775807) (d : Nat) : ∀ (k : Nat) (i : Int), 0 ≤ i → i ≤ l.length → (l.length : Int) - i = d → d < k → incognitoref07_Same.l0 k l l i = some true := by
  induction d with
  | zero =>
    intro k i h0 h1 hd hk
    obtain ⟨k, rfl⟩ : ∃ m, k = m + 1 := ⟨k - 1, by omega⟩
    simp only [incognitoref07_Same.l0]
    rw [if_neg (by omega)]
  | succ d ih =>
    intro k i h0 h1 hd hk
    obtain ⟨k, rfl⟩ : ∃ m, k = m + 1 := ⟨k - 1, by omega⟩
    have hlt : i < (l.length : Int) := by omega
    simp only [incognitoref07_Same.l0]
    rw [if_pos hlt, if_pos h0, if_pos hlt, if_neg (by simp), show wrap64 (i + 1) = i + 1 from by unfold wrap64; omega, ih k (i + 1) (by omega) (by omega) (by omega) (by omega)]
theorem vals_same (l : List S29) (hl : l.length ≤ 9223372036854775807) (k : Nat) (hk : l.length < k) : incognitoref07_Same.f k l l = some true := by
  unfold incognitoref07_Same.f
  rw [if_pos rfl, vals_loop l hl l.length k 0 (by omega) (by omega) (by omega) (by omega)]
theorem one_same (x : S32) (h4 : x.f4.length < 4398046511104) (h5 : x.f5.length < 4398046511104) (k : Nat) (hk : 4398046511104 ≤ k) :
    incognitoref12_One.f k x.f0.f0 x.f0.f1 x.f0.f2 x.f1 x.f2.f0 x.f2.f1 x.f2.f2 x.f3 x.f4 x.f5 x.f6 x.f7 x.f0.f0 x.f0.f1 x.f0.f2 x.f1 x.f2.f0 x.f2.f1 x.f2.f2 x.f3 x.f4 x.f5 x.f6 x.f7 = some true := by
  unfold incognitoref12_One.f
  rw [vals_same x.f4 (by omega) k (by omega), vals_same x.f5 (by omega) k (by omega)]
  simp
theorem same_loop (l : List S32) (hs : Small l) (hl : l.length ≤ 100) (d : Nat) : ∀ (k : Nat) (i : Int), 0 ≤ i → i ≤ l.length → (l.length : Int) - i = d → d + 4398046511104 < k → incognitoref12_Same.l0 k l l i = some true := by
  induction d with
  | zero =>
    intro k i h0 h1 hd hk
    obtain ⟨k, rfl⟩ : ∃ m, k = m + 1 := ⟨k - 1, by omega⟩
    simp only [incognitoref12_Same.l0]
    rw [if_neg (by omega)]
  | succ d ih =>
    intro k i h0 h1 hd hk
    obtain ⟨k, rfl⟩ : ∃ m, k = m + 1 := ⟨k - 1, by omega⟩
    have hlt : i < (l.length : Int) := by omega
    have hm := hs _ (rd_mem h0 hlt)
    simp only [incognitoref12_Same.l0]
    rw [if_pos hlt, if_pos h0, if_pos hlt, one_same (rd_T32 l i) hm.1 hm.2 k (by omega)]
    simp only [Option.bind_some, if_true]
    rw [wrap_next h0 (by omega), ih k (i + 1) (by omega) (by omega) (by omega) (by omega)]
theorem same_eq (l : List S32) (hs : Small l) (hl : l.length ≤ 100) (k : Nat) (hk : 4398046511304 < k) : incognitoref12_Same.f k l l = some true := by
  unfold incognitoref12_Same.f
  rw [if_pos rfl, same_loop l hs hl l.length k 0 (by omega) (by omega) (by omega) (by omega)]
theorem picks_small {l0 : List S32} (hs : Small l0) (l1 : List Int) : Small (picks l0 l1) := fun x hx => hs x (picks_mem hx)
end Go.Proofs.Ytbogookhndaeeaa.PP
