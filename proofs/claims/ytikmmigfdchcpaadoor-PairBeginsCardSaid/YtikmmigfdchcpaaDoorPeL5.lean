/-
  Proved: a part of the proof of the claim's statement (text L5 of it).
  Conditions: none of ours.
-/
import Derived.Test.YtikmmigfdchcpaaDoorPeQ0
import Derived.Test.YtikmmigfdchcpaaDoorPeL4
import Derived.Test.YtikmmigfdchcpaaDoorPeK
namespace Go.Proofs.YtikmmigfdchcpaaDoor.PP
open Go.RowKit Go.Proofs.YtikmmigfdchcpaaDoorW.PrintWords Go.Proofs.YtikmmigfdchcpaaDoorW.PrintLast Go.Proofs.YtikmmigfdchcpaaDoorW.PrintMore
set_option linter.unusedVariables false
set_option linter.unusedSimpArgs false
structure Inv (l : List S47) (n : Nat) (s : St) : Prop where
 last : s.last = if n = 0 then 0 else (ev l (n - 1)).f0
 len : s.ends.length = l.length
 busy : ∀ x : S38, keyOk x = true → s.busy (zbd x) = (match lastC l x n with | some j => if (ev l j).f2 = 1 then some (j : Int) else none | none => none)
 lost : ∀ x : S38, keyOk x = true → (s.lost (zbd x)).isSome = lostAt l x n
 gone : ∀ v : Int, v ∈ s.gone ↔ ∃ a q : Nat, v = (a : Int) ∧ q < n ∧ nx l a q ∧ (ev l q).f2 = 3
 glen : s.gone.length ≤ n
 ends1 : ∀ a q : Nat, q < n → nx l a q → (ev l q).f2 = 2 → rd s.ends (a : Int) = (q : Int)
 ends2 : ∀ a : Nat, rd s.ends (a : Int) ≠ 0 → ∃ q : Nat, q < n ∧ nx l a q ∧ (ev l q).f2 = 2 ∧ rd s.ends (a : Int) = (q : Int)
theorem inv0 (l : List S47) : Inv l 0 (st0 (l.length : Int)) := by
 refine ⟨rfl, by simp [st0], fun x _ => rfl, fun x _ => rfl, fun v => ?_, by simp [st0], fun a q h => by omega, fun a h => ?_⟩
 ·constructor
  ·intro h; simp [st0] at h
  ·rintro ⟨a, q, _, h, _⟩; omega
 ·exfalso
  apply h
  simp only [st0, rd, Int.toNat_natCast, List.getD_eq_getElem?_getD]
  cases g : (List.replicate l.length (0 : Int))[a]? with
  | none => rfl
  | some v =>
   have := List.mem_of_getElem? g
   rw [List.mem_replicate] at this
   simp [this.2]
theorem busyAt_iff {l : List S47} {x : S38} {n : Nat} : busyAt l x n = true ↔ ∃ a, lastC l x n = some a ∧ (ev l a).f2 = 1 := by
 unfold busyAt
 cases h : lastC l x n with
 | none => simp
 | some a => simp
theorem inv_busy {l : List S47} {n : Nat} {s : St} (hI : Inv l n s) {x : S38} (hk : keyOk x = true) : (s.busy (zbd x)).isSome = busyAt l x n := by
 rw [hI.busy x hk]
 unfold busyAt
 cases lastC l x n with
 | none => rfl
 | some a => by_cases h : (ev l a).f2 = 1 <;> simp [h]
theorem rB_time {x : S47} (h : rB x = true) : 0 ≤ x.f0 := by
 unfold rB at h
 rw [Bool.and_eq_true, decide_eq_true_eq] at h
 exact h.1
theorem rB_type {x : S47} (h : rB x = true) (h1 : ¬ x.f2 = 1) : x.f2 = 2 ∨ x.f2 = 3 ∨ x.f2 = 4 := by
 unfold rB at h
 rw [if_neg h1] at h
 unfold restB at h
 simp only [Bool.and_eq_true, Bool.or_eq_true, beq_iff_eq, decide_eq_true_eq] at h
 obtain ⟨_, _, _, _, _, _, _, _, h⟩ := h
 rcases h with h | ⟨h | h, _⟩
 ·exact Or.inl h
 ·exact Or.inr (Or.inl h)
 ·exact Or.inr (Or.inr h)
theorem zca (l : List S47) (x : S38) (n : Nat) : lastC l x (n + 1) = if ceq (ev l n).f1 x = true then some n else lastC l x n := rfl
theorem upd_key {m : Lit → Option Int} {a b : S38} {v : Option Int} (ha : keyOk a = true) (hb : keyOk b = true) : upd m (zbd a) v (zbd b) = if ceq a b = true then v else m (zbd b) := by
 by_cases h : ceq a b = true
 ·rw [if_pos h, ← (ceq_key ha hb).2 h, upd_same]
 ·rw [if_neg h, upd_other]
  intro e
  exact h ((ceq_key ha hb).1 e.symm)
theorem rd_set_same (xs : List Int) (a : Nat) (v : Int) (h : a < xs.length) : rd (xs.set a v) (a : Int) = v := by
 simp [rd, List.getD_eq_getElem?_getD, h]
theorem rd_set_other (xs : List Int) (a b : Nat) (v : Int) (h : a ≠ b) : rd (xs.set a v) (b : Int) = rd xs (b : Int) := by
 simp [rd, List.getD_eq_getElem?_getD, List.getElem?_set_ne h]
section
variable {l : List S47} {n : Nat} {s : St} (hg : Good l) (hn : n < l.length) (hI : Inv l n s)
include hg hn hI
theorem inv_invoke (h1 : (ev l n).f2 = 1) (hl : lostAt l (ev l n).f1 n = false) : Inv l (n + 1) ⟨upd s.busy (zbd (ev l n).f1) (some (n : Int)), s.lost, (ev l n).f0, s.gone, s.ends⟩ := by
 have hk := (hg.2 _ (ev_mem hn)).2
 refine ⟨by simp, hI.len, fun x hx => ?_, fun x hx => ?_, fun v => ?_, Nat.le_succ_of_le hI.glen, fun a q hq hx h2 => ?_, fun a ha => ?_⟩
 ·rw [zca]
  show upd s.busy _ _ (zbd x) = _
  rw [upd_key hk hx]
  by_cases hc : ceq (ev l n).f1 x = true
  ·simp only [hc, if_true]
   rw [if_pos h1]
  ·rw [if_neg hc, if_neg hc]
   exact hI.busy x hx
 ·have h := hI.lost x hx
  unfold lostAt at h hl ⊢
  rw [zca]
  by_cases hc : ceq (ev l n).f1 x = true
  ·rw [if_pos hc]
   show (s.lost (zbd x)).isSome = ((ev l n).f2 == 4)
   rw [h, ← lastC_congr hc, hl, h1]
   rfl
  ·rw [if_neg hc]
   exact h
 ·rw [hI.gone v]
  constructor
  ·rintro ⟨a, q, e, hq, hx, h3⟩
   exact ⟨a, q, e, by omega, hx, h3⟩
  ·rintro ⟨a, q, e, hq, hx, h3⟩
   refine ⟨a, q, e, ?_, hx, h3⟩
   by_cases e2 : q = n
   ·rw [e2] at h3; omega
   ·omega
 ·refine hI.ends1 a q ?_ hx h2
  by_cases e2 : q = n
  ·rw [e2] at h2; omega
  ·omega
 ·obtain ⟨q, hq, h⟩ := hI.ends2 a ha
  exact ⟨q, by omega, h⟩
theorem inv_done {a : Nat} (hx : nx l a n) (h1 : (ev l a).f2 = 1) (h2 : (ev l n).f2 = 2) : Inv l (n + 1) ⟨upd s.busy (zbd (ev l n).f1) none, s.lost, (ev l n).f0, s.gone, s.ends.set a (n : Int)⟩ := by
 have hk := (hg.2 _ (ev_mem hn)).2
 have ha := nx_lt hx
 have hlast : lastC l (ev l n).f1 n = some a := hx
 refine ⟨by simp, by simp [hI.len], fun x hxk => ?_, fun x hxk => ?_, fun v => ?_, Nat.le_succ_of_le hI.glen, fun b q hq hx2 h3 => ?_, fun b hb => ?_⟩
 ·rw [zca]
  show upd s.busy _ _ (zbd x) = _
  rw [upd_key hk hxk]
  by_cases hc : ceq (ev l n).f1 x = true
  ·simp only [hc, if_true]
   rw [if_neg (by omega)]
  ·rw [if_neg hc, if_neg hc]
   exact hI.busy x hxk
 ·have h := hI.lost x hxk
  unfold lostAt at h ⊢
  rw [zca]
  by_cases hc : ceq (ev l n).f1 x = true
  ·rw [if_pos hc]
   show (s.lost (zbd x)).isSome = ((ev l n).f2 == 4)
   rw [h, ← lastC_congr hc, hlast]
   show ((ev l a).f2 == 4) = _
   rw [h1, h2]
   rfl
  ·rw [if_neg hc]
   exact h
 ·rw [hI.gone v]
  constructor
  ·rintro ⟨b, q, e, hq, hx2, h3⟩
   exact ⟨b, q, e, by omega, hx2, h3⟩
  ·rintro ⟨b, q, e, hq, hx2, h3⟩
   refine ⟨b, q, e, ?_, hx2, h3⟩
   by_cases e2 : q = n
   ·rw [e2] at h3; omega
   ·omega
 ·show rd (s.ends.set a (n : Int)) (b : Int) = _
  by_cases e : q = n
  ·subst e
   rw [nx_left hx2 hx, rd_set_same _ _ _ (by rw [hI.len]; omega)]
  ·have hab : a ≠ b := by
    rintro rfl
    exact e (nx_right hx2 hx)
   rw [rd_set_other _ _ _ _ hab]
   exact hI.ends1 b q (by omega) hx2 h3
 ·replace hb : rd (s.ends.set a (n : Int)) (b : Int) ≠ 0 := hb
  show ∃ q : Nat, q < n + 1 ∧ nx l b q ∧ (ev l q).f2 = 2 ∧ rd (s.ends.set a (n : Int)) (b : Int) = (q : Int)
  by_cases e : a = b
  ·subst e
   exact ⟨n, by omega, hx, h2, rd_set_same _ _ _ (by rw [hI.len]; omega)⟩
  ·rw [rd_set_other _ _ _ _ e] at hb ⊢
   obtain ⟨q, hq, h⟩ := hI.ends2 b hb
   exact ⟨q, by omega, h⟩
theorem inv_failed {a : Nat} (hx : nx l a n) (h1 : (ev l a).f2 = 1) (h2 : (ev l n).f2 = 3) : Inv l (n + 1) ⟨upd s.busy (zbd (ev l n).f1) none, s.lost, (ev l n).f0, s.gone ++ [(a : Int)], s.ends⟩ := by
 have hk := (hg.2 _ (ev_mem hn)).2
 have hlast : lastC l (ev l n).f1 n = some a := hx
 refine ⟨by simp, hI.len, fun x hxk => ?_, fun x hxk => ?_, fun v => ?_, by have := hI.glen; simp; omega, fun b q hq hx2 h3 => ?_, fun b hb => ?_⟩
 ·rw [zca]
  show upd s.busy _ _ (zbd x) = _
  rw [upd_key hk hxk]
  by_cases hc : ceq (ev l n).f1 x = true
  ·simp only [hc, if_true]
   rw [if_neg (by omega)]
  ·rw [if_neg hc, if_neg hc]
   exact hI.busy x hxk
 ·have h := hI.lost x hxk
  unfold lostAt at h ⊢
  rw [zca]
  by_cases hc : ceq (ev l n).f1 x = true
  ·rw [if_pos hc]
   show (s.lost (zbd x)).isSome = ((ev l n).f2 == 4)
   rw [h, ← lastC_congr hc, hlast]
   show ((ev l a).f2 == 4) = _
   rw [h1, h2]
   rfl
  ·rw [if_neg hc]
   exact h
 ·show v ∈ s.gone ++ [(a : Int)] ↔ _
  rw [List.mem_append, List.mem_singleton, hI.gone v]
  constructor
  ·rintro (⟨b, q, e, hq, hx2, h3⟩ | rfl)
   ·exact ⟨b, q, e, by omega, hx2, h3⟩
   ·exact ⟨a, n, rfl, by omega, hx, h2⟩
  ·rintro ⟨b, q, e, hq, hx2, h3⟩
   by_cases e2 : q = n
   ·subst e2
    right
    rw [e, nx_left hx2 hx]
   ·left
    exact ⟨b, q, e, by omega, hx2, h3⟩
 ·refine hI.ends1 b q ?_ hx2 h3
  by_cases e2 : q = n
  ·rw [e2] at h3; omega
  ·omega
 ·obtain ⟨q, hq, h⟩ := hI.ends2 b hb
  exact ⟨q, by omega, h⟩
theorem inv_info {a : Nat} (hx : nx l a n) (h1 : (ev l a).f2 = 1) (h2 : (ev l n).f2 = 4) : Inv l (n + 1) ⟨upd s.busy (zbd (ev l n).f1) none, upd s.lost (zbd (ev l n).f1) (some (n : Int)), (ev l n).f0, s.gone, s.ends⟩ := by
 have hk := (hg.2 _ (ev_mem hn)).2
 refine ⟨by simp, hI.len, fun x hxk => ?_, fun x hxk => ?_, fun v => ?_, Nat.le_succ_of_le hI.glen, fun b q hq hx2 h3 => ?_, fun b hb => ?_⟩
 ·rw [zca]
  show upd s.busy _ _ (zbd x) = _
  rw [upd_key hk hxk]
  by_cases hc : ceq (ev l n).f1 x = true
  ·simp only [hc, if_true]
   rw [if_neg (by omega)]
  ·rw [if_neg hc, if_neg hc]
   exact hI.busy x hxk
 ·have h := hI.lost x hxk
  unfold lostAt at h ⊢
  rw [zca]
  show (upd s.lost _ _ (zbd x)).isSome = _
  rw [upd_key hk hxk]
  by_cases hc : ceq (ev l n).f1 x = true
  ·simp only [hc, if_true]
   rw [h2]
   rfl
  ·rw [if_neg hc, if_neg hc]
   exact h
 ·rw [hI.gone v]
  constructor
  ·rintro ⟨b, q, e, hq, hx2, h3⟩
   exact ⟨b, q, e, by omega, hx2, h3⟩
  ·rintro ⟨b, q, e, hq, hx2, h3⟩
   refine ⟨b, q, e, ?_, hx2, h3⟩
   by_cases e2 : q = n
   ·rw [e2] at h3; omega
   ·omega
 ·refine hI.ends1 b q ?_ hx2 h3
  by_cases e2 : q = n
  ·rw [e2] at h3; omega
  ·omega
 ·obtain ⟨q, hq, h⟩ := hI.ends2 b hb
  exact ⟨q, by omega, h⟩
theorem key_ok : ∃ s', Ev (fun k => zb7 k l (n : Int) (ev l n) s) ((if (ev l n).f2 = 1 then (if busyAt l (ev l n).f1 n = true then 4 else if lostAt l (ev l n).f1 n = true then 4 else 0)
   else if busyAt l (ev l n).f1 n = true then (if (ev l n).f2 = 2 then (if outsAt l n = true then 0 else 4) else 0) else 4), s') ∧
  (rB (ev l n) = true → (if (ev l n).f2 = 1 then (if busyAt l (ev l n).f1 n = true then 4 else if lostAt l (ev l n).f1 n = true then 4 else 0)
   else if busyAt l (ev l n).f1 n = true then (if (ev l n).f2 = 2 then (if outsAt l n = true then 0 else 4) else 0) else 4 : Int) = 0 → Inv l (n + 1) s') := by
 have hk := (hg.2 _ (ev_mem hn)).2
 have hx := (hg.2 _ (ev_mem hn)).1
 have hb := inv_busy hI hk
 have hlo := hI.lost _ hk
 have hl := hg.1
 by_cases h1 : (ev l n).f2 = 1
 ·rw [if_pos h1]
  cases hbb : busyAt l (ev l n).f1 n with
  | true =>
   rw [hbb] at hb
   exact ⟨s, Ev.congr (f := fun _ => some (4, s)) (fun k => by unfold zb7; rw [if_pos h1, if_pos hb]) (Ev.now _), fun _ e => by simp at e⟩
  | false =>
   rw [hbb] at hb
   cases hll : lostAt l (ev l n).f1 n with
   | true =>
    rw [hll] at hlo
    exact ⟨s, Ev.congr (f := fun _ => some (4, s)) (fun k => by unfold zb7; rw [if_pos h1, if_neg (by rw [hb]; decide), if_pos hlo]) (Ev.now _), fun _ e => by simp at e⟩
   | false =>
    rw [hll] at hlo
    exact ⟨_, Ev.congr (f := fun _ => some (0, ⟨upd s.busy (zbd (ev l n).f1) (some (n : Int)), s.lost, (ev l n).f0, s.gone, s.ends⟩)) (fun k => by unfold zb7; rw [if_pos h1, if_neg (by rw [hb]; decide), if_neg (by rw [hlo]; decide)]) (Ev.now _), fun _ _ => inv_invoke hg hn hI h1 hll⟩
 ·rw [if_neg h1]
  cases hbb : busyAt l (ev l n).f1 n with
  | false =>
   rw [hbb] at hb
   exact ⟨s, Ev.congr (f := fun _ => some (4, s)) (fun k => by unfold zb7; rw [if_neg h1, if_neg (by rw [hb]; decide)]) (Ev.now _), fun _ e => by simp at e⟩
  | true =>
   rw [hbb] at hb
   obtain ⟨a, hla, h1a⟩ := busyAt_iff.1 hbb
   have han := (zbz hla).1
   have hbv : s.busy (zbd (ev l n).f1) = some (a : Int) := by
    rw [hI.busy _ hk, hla]
    exact if_pos h1a
   have hlen := hI.len
   have hglen := hI.glen
   rw [if_pos rfl]
   have hc : 0 ≤ (s.busy (zbd (ev l n).f1)).getD 0 ∧ (s.busy (zbd (ev l n).f1)).getD 0 < (l.length : Int) ∧ (s.busy (zbd (ev l n).f1)).getD 0 < (s.ends.length : Int) := by
    rw [hbv]
    show 0 ≤ (a : Int) ∧ (a : Int) < (l.length : Int) ∧ (a : Int) < (s.ends.length : Int)
    omega
   by_cases h2 : (ev l n).f2 = 2
   ·rw [if_pos h2]
    have ho : outsAt l n = outB (ev l a).f3 (ev l a).f5 (ev l n).f7 := by
     unfold outsAt
     rw [hla]
    obtain ⟨L, hL⟩ := ev_outs (ev l a).f3 (ev l a).f5 (ev l n).f7 hx.2.2.2.1 (by have := hx.2.2.2.2.2.1; omega)
    rw [← ho] at hL
    refine ⟨if outsAt l n = true then ⟨upd s.busy (zbd (ev l n).f1) none, s.lost, (ev l n).f0, s.gone, s.ends.set a (n : Int)⟩ else s, ?_, ?_⟩
    ·refine Ev.congr (f := fun k => (zbf.f k (ev l a).f3 (ev l a).f5 (ev l n).f7).bind fun r => (if r.2 = true then some (0, ⟨upd s.busy (zbd (ev l n).f1) none, s.lost, (ev l n).f0, s.gone, s.ends.set a (n : Int)⟩) else some (4, s))) (fun k => ?_) (Ev.bind hL ?_)
     ·unfold zb7
      rw [if_neg h1, if_pos hb, if_pos hc, if_pos h2, hbv]
      rfl
     ·cases outsAt l n with
      | true => exact Ev.now _
      | false => exact Ev.now _
    ·intro _ e
     cases hoo : outsAt l n with
     | true => rw [if_pos rfl]; exact inv_done hg hn hI hla h1a h2
     | false => rw [hoo] at e; simp at e
   ·rw [if_neg h2]
    by_cases h3 : (ev l n).f2 = 3
    ·refine ⟨⟨upd s.busy (zbd (ev l n).f1) none, s.lost, (ev l n).f0, s.gone ++ [(a : Int)], s.ends⟩, Ev.congr (f := fun _ => some (0, ⟨upd s.busy (zbd (ev l n).f1) none, s.lost, (ev l n).f0, s.gone ++ [(a : Int)], s.ends⟩)) (fun k => ?_) (Ev.now _), fun _ _ => inv_failed hg hn hI hla h1a h3⟩
     unfold zb7
     rw [if_neg h1, if_pos hb, if_pos hc, if_neg h2, if_pos h3, if_pos (by omega), hbv]
     rfl
    ·refine ⟨⟨upd s.busy (zbd (ev l n).f1) none, upd s.lost (zbd (ev l n).f1) (some (n : Int)), (ev l n).f0, s.gone, s.ends⟩, Ev.congr (f := fun _ => some (0, ⟨upd s.busy (zbd (ev l n).f1) none, upd s.lost (zbd (ev l n).f1) (some (n : Int)), (ev l n).f0, s.gone, s.ends⟩)) (fun k => ?_) (Ev.now _), fun hr _ => ?_⟩
     ·unfold zb7
      rw [if_neg h1, if_pos hb, if_pos hc, if_neg h2, if_neg h3]
     ·rcases rB_type hr h1 with h | h | h
      ·exact absurd h h2
      ·exact absurd h h3
      ·exact inv_info hg hn hI hla h1a h
theorem step_ok : ∃ s', Ev (fun k => stepF k l (n : Int) s) (wrongS l n, s') ∧ (wrongS l n = 0 → Inv l (n + 1) s') := by
 have hk := (hg.2 _ (ev_mem hn)).2
 have hx := (hg.2 _ (ev_mem hn)).1
 have hl := hg.1
 have hF : ∀ k, stepF k l (n : Int) s = (zar.f k (ev l n).f0 (ev l n).f1.f0 (ev l n).f1.f1 (ev l n).f1.f2 (ev l n).f2 (ev l n).f3 (ev l n).f4.f0 (ev l n).f4.f1 (ev l n).f4.f2 (ev l n).f5 (ev l n).f6 (ev l n).f7 (ev l n).f8 (ev l n).f9).bind fun ok =>
   if ok = true then (if (ev l n).f0 < s.last then some (4, s) else zb7 k l (n : Int) (ev l n) s) else some (2, s) := by
  intro k
  unfold stepF
  rw [if_pos (by omega)]
  congr 1
  funext ok
  cases ok with
  | false => rfl
  | true =>
   rw [if_pos rfl, if_pos rfl]
   show (if (ev l n).f0 < s.last then some (4, s) else if keyOk (ev l n).f1 = true then zb7 k l (n : Int) (ev l n) s else none) = _
   rw [if_pos hk]
 unfold wrongS
 cases hr : rB (ev l n) with
 | false =>
  rw [if_pos rfl]
  refine ⟨s, Ev.congr hF (Ev.bind (ev_right _ hx) ?_), fun e => by simp at e⟩
  rw [hr]
  exact Ev.now _
 | true =>
  rw [if_neg (by decide)]
  have ht : ((ev l n).f0 < s.last) ↔ (0 < n ∧ (ev l n).f0 < (ev l (n - 1)).f0) := by
   have h0 := rB_time hr
   rw [hI.last]
   by_cases e : n = 0
   ·rw [if_pos e]; omega
   ·rw [if_neg e]; omega
  by_cases hc : 0 < n ∧ (ev l n).f0 < (ev l (n - 1)).f0
  ·rw [if_pos hc]
   refine ⟨s, Ev.congr hF (Ev.bind (ev_right _ hx) ?_), fun e => by simp at e⟩
   rw [hr]
   simp only [if_true]
   exact Ev.congr (f := fun _ => some (4, s)) (fun k => if_pos (ht.2 hc)) (Ev.now _)
  ·rw [if_neg hc]
   obtain ⟨s', h1, h2⟩ := key_ok hg hn hI
   refine ⟨s', Ev.congr hF (Ev.bind (ev_right _ hx) ?_), h2 hr⟩
   rw [hr]
   simp only [if_true]
   exact Ev.congr (f := fun k => zb7 k l (n : Int) (ev l n) s) (fun k => if_neg (fun e => hc (ht.1 e))) h1
end
theorem chkS_zero {l : List S47} : ∀ {d i : Nat}, (chkS l d i).1 = 0 ↔ ∀ j, i ≤ j → j < i + d → wrongS l j = 0
 | 0, i => by simp only [chkS, true_iff]; intro j h1 h2; omega
 | d + 1, i => by
  simp only [chkS]
  by_cases h : wrongS l i = 0
  ·rw [if_pos h, chkS_zero]
   constructor
   ·intro g j h1 h2
    by_cases e : j = i
    ·rw [e]; exact h
    ·exact g j (by omega) (by omega)
   ·intro g j h1 h2
    exact g j (by omega) (by omega)
  ·rw [if_neg h]
   constructor
   ·intro g; exact absurd g h
   ·intro g; exact absurd (g i (Nat.le_refl _) (by omega)) h
theorem all_loop (l : List S47) (hg : Good l) : ∀ (d i : Nat) (s : St), i + d = l.length → Inv l i s → ∃ s', Ev (fun k => allL k l (d + 1) (i : Int) s) ((chkS l d i).1, (chkS l d i).2, s') ∧ ((chkS l d i).1 = 0 → Inv l l.length s')
 | 0, i, s, h, hI => by
  refine ⟨s, Ev.congr (f := fun _ => some (0, 0, s)) (fun k => by simp only [allL]; rw [if_neg (by omega)]) (Ev.now _), fun _ => ?_⟩
  have e : i = l.length := by omega
  rw [← e]
  exact hI
 | d + 1, i, s, h, hI => by
  obtain ⟨s1, h1, h2⟩ := step_ok hg (show i < l.length by omega) hI
  have hF : ∀ k, allL k l (d + 1 + 1) (i : Int) s = (stepF k l (i : Int) s).bind fun r => (if r.1 = 0 then allL k l (d + 1) ((i + 1 : Nat) : Int) r.2 else some (r.1, (i : Int) + 1, r.2)) := by
   intro k
   rw [allL]
   rw [if_pos (by omega)]
   rfl
  simp only [chkS]
  by_cases h0 : wrongS l i = 0
  ·obtain ⟨s', h3, h4⟩ := all_loop l hg d (i + 1) s1 (by omega) (h2 h0)
   rw [if_pos h0]
   refine ⟨s', Ev.congr hF (Ev.bind h1 ?_), h4⟩
   simp only [h0, if_true]
   exact h3
  ·rw [if_neg h0]
   refine ⟨s1, Ev.congr hF (Ev.bind h1 ?_), fun e => absurd e h0⟩
   simp only [h0, if_false]
   exact Ev.now _
theorem ev_all (l : List S47) (hg : Good l) : ∃ s', Ev (fun k => allF k l) ((chkS l l.length 0).1, (chkS l l.length 0).2, s') ∧ ((chkS l l.length 0).1 = 0 → Inv l l.length s') :=
 all_loop l hg l.length 0 _ (by omega) (inv0 l)
theorem ev_check (l : List S47) (hg : Good l) : Ev (fun k => zb5.f k l) (chkS l l.length 0) := by
 obtain ⟨s', h, _⟩ := ev_all l hg
 refine Ev.congr (f := fun k => (allF k l).bind fun r => some (r.1, r.2.1)) (fun k => by unfold zb5.f; rw [if_pos hg.1]) (Ev.bind h (Ev.now _))
end Go.Proofs.YtikmmigfdchcpaaDoor.PP
