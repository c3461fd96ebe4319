/-
  Proved: a part of the proof of the claim's statement (text L9 of it).
  Conditions: none of ours.
-/
import Derived.Test.YtikmmigfdchcpaaDoorPeQ0
import Derived.Test.YtikmmigfdchcpaaDoorPeL7
namespace Go.Proofs.YtikmmigfdchcpaaDoor.PP
open Go.RowKit Go.Proofs.YtikmmigfdchcpaaDoorW.PrintWords Go.Proofs.YtikmmigfdchcpaaDoorW.PrintLast Go.Proofs.YtikmmigfdchcpaaDoorW.PrintMore
set_option linter.unusedVariables false
set_option linter.unusedSimpArgs false
theorem ev_take {l : List S47} {n j : Nat} (h : j < n) : ev (l.take n) j = ev l j := by
 unfold ev
 simp only [zav, Int.toNat_natCast, List.getD_eq_getElem?_getD, List.getElem?_take, if_pos h]
theorem lastC_take {l : List S47} {n : Nat} {x : S38} : ∀ {m : Nat}, m ≤ n → lastC (l.take n) x m = lastC l x m
 | 0, _ => rfl
 | m + 1, h => by
  simp only [lastC]
  rw [ev_take (by omega), lastC_take (by omega)]
theorem busy_take {l : List S47} {n j : Nat} {x : S38} (h : j ≤ n) : busyAt (l.take n) x j = busyAt l x j := by
 unfold busyAt
 rw [lastC_take h]
 cases g : lastC l x j with
 | none => rfl
 | some a =>
  simp only
  rw [ev_take (by have := (zbz g).1; omega)]
theorem lost_take {l : List S47} {n j : Nat} {x : S38} (h : j ≤ n) : lostAt (l.take n) x j = lostAt l x j := by
 unfold lostAt
 rw [lastC_take h]
 cases g : lastC l x j with
 | none => rfl
 | some a =>
  simp only
  rw [ev_take (by have := (zbz g).1; omega)]
theorem outs_take {l : List S47} {n j : Nat} (h : j < n) : outsAt (l.take n) j = outsAt l j := by
 unfold outsAt
 rw [ev_take h, lastC_take (by omega)]
 cases g : lastC l (ev l j).f1 j with
 | none => rfl
 | some a =>
  simp only
  rw [ev_take (by have := (zbz g).1; omega)]
theorem wrong_take {l : List S47} {n j : Nat} (h : j < n) : wrongS (l.take n) j = wrongS l j := by
 unfold wrongS
 rw [outs_take h, ev_take h, ev_take (show j - 1 < n by omega), busy_take (by omega), lost_take (by omega)]
theorem chk_take {l : List S47} {n : Nat} (hn : n ≤ l.length) (h : (chkS l l.length 0).1 = 0) : (chkS (l.take n) (l.take n).length 0).1 = 0 := by
 rw [chkS_zero] at h ⊢
 intro j _ hj
 have hl : (l.take n).length = n := by rw [List.length_take]; omega
 have : j < n := by omega
 rw [wrong_take this]
 exact h j (Nat.zero_le _) (by omega)
theorem good_take {l : List S47} {n : Nat} (hg : Good l) : Good (l.take n) :=
 ⟨by rw [List.length_take]; have := hg.1; omega, fun x hx => hg.2 x (List.mem_of_mem_take hx)⟩
theorem nx_take {l : List S47} {n a q : Nat} (h : q < n) : nx (l.take n) a q ↔ nx l a q := by
 unfold nx
 rw [ev_take h, lastC_take (by omega)]
theorem row_take {l : List S47} {n j : Nat} {out : List S38} {r : Int} (h : j < n) : opRow (l.take n) j out r = opRow l j out r := by
 unfold opRow
 rw [ev_take h]
def cutB (n : Nat) (a : S41) : S41 := if (n : Int) ≤ a.f7 then ⟨a.f0, a.f1, a.f2, a.f3, a.f4, [], a.f6, -1⟩ else a
theorem cut_no {n : Nat} {a : S41} (h : a.f7 < (n : Int)) : cutB n a = a := by
 unfold cutB
 rw [if_neg (by omega)]
theorem cut_yes {n : Nat} {a : S41} (h : (n : Int) ≤ a.f7) : cutB n a = ⟨a.f0, a.f1, a.f2, a.f3, a.f4, [], a.f6, -1⟩ := by
 unfold cutB
 rw [if_pos h]
theorem op_take {l : List S47} {n j : Nat} (hn : n ≤ l.length) (hj : j < n) :
  (opS (l.take n) j = [] ∧ opS l j = []) ∨ (∃ o, opS (l.take n) j = [o] ∧ opS l j = [] ∧ o.f7 = -1 ∧ o.f6 = (j : Int)) ∨
  (∃ o a, opS (l.take n) j = [o] ∧ opS l j = [a] ∧ o.f6 = (j : Int) ∧ a.f6 = (j : Int) ∧ cutB n a = o) := by
 have hlen : (l.take n).length = n := by rw [List.length_take]; omega
 unfold opS
 rw [ev_take hj, hlen]
 by_cases h1 : (ev l j).f2 = 1
 ·rw [if_pos h1, if_pos h1]
  cases g : nxt l l.length j with
  | none =>
   have g2 : nxt (l.take n) n j = none := nxt_none.2 (fun q hq hx => nxt_none.1 g q (by omega) ((nx_take hq).1 hx))
   rw [g2]
   simp only
   rw [row_take hj]
   exact Or.inr (Or.inr ⟨_, _, rfl, rfl, rfl, rfl, cut_no (show (-1 : Int) < n by omega)⟩)
  | some q =>
   obtain ⟨hx, hq⟩ := nxt_iff.1 g
   by_cases hqn : q < n
   ·have g2 : nxt (l.take n) n j = some q := nxt_iff.2 ⟨(nx_take hqn).2 hx, hqn⟩
    rw [g2]
    simp only
    rw [ev_take hqn]
    by_cases h3 : (ev l q).f2 = 3
    ·rw [if_pos h3, if_pos h3]
     exact Or.inl ⟨rfl, rfl⟩
    ·rw [if_neg h3, if_neg h3, row_take hj, row_take hj]
     by_cases h2 : (ev l q).f2 = 2
     ·rw [if_pos h2]
      exact Or.inr (Or.inr ⟨_, _, rfl, rfl, rfl, rfl, cut_no (show (q : Int) < n by omega)⟩)
     ·rw [if_neg h2]
      exact Or.inr (Or.inr ⟨_, _, rfl, rfl, rfl, rfl, cut_no (show (-1 : Int) < n by omega)⟩)
   ·have g2 : nxt (l.take n) n j = none := nxt_none.2 (fun p hp hy => by have := nx_right ((nx_take hp).1 hy) hx; omega)
    rw [g2]
    simp only
    rw [row_take hj]
    by_cases h3 : (ev l q).f2 = 3
    ·rw [if_pos h3]
     exact Or.inr (Or.inl ⟨_, rfl, rfl, rfl, rfl⟩)
    ·rw [if_neg h3]
     by_cases h2 : (ev l q).f2 = 2
     ·rw [if_pos h2]
      exact Or.inr (Or.inr ⟨_, _, rfl, rfl, rfl, rfl, cut_yes (show (n : Int) ≤ q by omega)⟩)
     ·rw [if_neg h2]
      exact Or.inr (Or.inr ⟨_, _, rfl, rfl, rfl, rfl, cut_no (show (-1 : Int) < n by omega)⟩)
 ·rw [if_neg h1, if_neg h1]
  exact Or.inl ⟨rfl, rfl⟩
def Beg (n : Nat) : List S41 → List S41 → Prop
 | [], A => ∀ a, A[0]? = some a → (n : Int) ≤ a.f6
 | o :: L, A => (o.f7 = -1 ∧ (∀ a, A[0]? = some a → a.f6 ≠ o.f6) ∧ Beg n L A) ∨ (∃ a B, A = a :: B ∧ a.f6 = o.f6 ∧ cutB n a = o ∧ Beg n L B)
theorem beg_ops {l : List S47} {n : Nat} (hn : n ≤ l.length) : ∀ (d i : Nat), i + d = n → Beg n (opsF (l.take n) d i) (opsF l (l.length - i) i)
 | 0, i, h => by
  intro a ha
  obtain ⟨j, h1, h2, h3⟩ := mem_opsF (List.mem_of_getElem? ha)
  have := (mem_opS h3).2.1
  omega
 | d + 1, i, h => by
  have ih := beg_ops hn d (i + 1) (by omega)
  rw [show l.length - i = (l.length - (i + 1)) + 1 by omega]
  simp only [opsF]
  rcases op_take hn (show i < n by omega) with ⟨h1, h2⟩ | ⟨o, h1, h2, h3, h4⟩ | ⟨o, a, h1, h2, h3, h4, h5⟩
  ·rw [h1, h2]
   exact ih
  ·rw [h1, h2]
   refine Or.inl ⟨h3, fun a ha => ?_, ih⟩
   obtain ⟨j, g1, g2, g3⟩ := mem_opsF (List.mem_of_getElem? ha)
   have := (mem_opS g3).2.1
   omega
  ·rw [h1, h2]
   exact Or.inr ⟨a, _, rfl, by omega, h5, ih⟩
theorem begins {l : List S47} (hg : Good l) (h : (chkS l l.length 0).1 = 0) {n : Nat} (hn : n ≤ l.length) :
  opsS (l.take n) = (opsF (l.take n) n 0, 0, (chkS (l.take n) (l.take n).length 0).2) ∧ opsS l = (opsF l l.length 0, 0, (chkS l l.length 0).2) ∧ Beg n (opsF (l.take n) n 0) (opsF l l.length 0) := by
 have hl : (l.take n).length = n := by rw [List.length_take]; omega
 refine ⟨?_, ?_, beg_ops hn n 0 (by omega)⟩
 ·have := chk_take hn h
  unfold opsS
  rw [this, if_pos rfl, hl]
 ·unfold opsS
  rw [h, if_pos rfl]
end Go.Proofs.YtikmmigfdchcpaaDoor.PP
