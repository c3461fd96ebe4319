/-
  Proved: a part of the proof of the claim's statement (text L2 of it).
  Conditions: none of ours.
-/
import Derived.Test.YtikmmigfdchcpaaDoorPeQ0
import Derived.Test.YtikmmigfdchcpaaDoorPeL1
import Derived.Test.YtikmmigfdchcpaaDoorPeQ17
import Derived.Test.YtikmmigfdchcpaaDoorPeQ19
import Derived.Test.YtikmmigfdchcpaaDoorPeQ20
import Derived.Test.YtikmmigfdchcpaaDoorPeQ41
import Derived.Test.YtikmmigfdchcpaaDoorPeQ22
import Derived.Test.YtikmmigfdchcpaaDoorPeQ23
import Derived.Test.YtikmmigfdchcpaaDoorPeQ1
namespace Go.Proofs.YtikmmigfdchcpaaDoor.PP
open Go.RowKit Go.Proofs.YtikmmigfdchcpaaDoorW.PrintWords Go.Proofs.YtikmmigfdchcpaaDoorW.PrintLast Go.Proofs.YtikmmigfdchcpaaDoorW.PrintMore
set_option linter.unusedVariables false
set_option linter.unusedSimpArgs false
def domOf (c : Int) : Int := if c = 118 then 2 else if c = 102 then 3 else if c = 111 then 4 else 5
def doms (s : ByteArray) : List Int := (List.range s.size).map fun (j : Nat) => domOf (bt s (j : Int))
def fs (m o : Int) : Option (List Int × Int × Bool) := (idxOf m o za4).map fun i => (doms (zbi za4 (i : Int)).f2, (zbi za4 (i : Int)).f3, (zbi za4 (i : Int)).f4)
def argsOf (m o : Int) : List Int × Bool := match fs m o with
 | some t => (t.1, true)
 | none => ([], false)
def signOf (m o : Int) : List Int × Int × Bool × Bool := match fs m o with
 | some t => (t.1, t.2.1, t.2.2, true)
 | none => ([], 0, false, false)
theorem tab_all : ((List.range 11).all fun m => (List.range 14).all fun o => decide (zbc.f 5 (m : Int) (o : Int) = some (argsOf m o)) && decide (zax.f 5 (m : Int) (o : Int) = some (signOf m o))) = true := by kernel_rfl
theorem tab_range : (za4.all fun x => decide (1 ≤ x.f0 ∧ x.f0 ≤ 10 ∧ 1 ≤ x.f1 ∧ x.f1 ≤ 13)) = true := by kernel_rfl
theorem idxOf_none {m o : Int} : ∀ {l : List S78}, (∀ x ∈ l, rowIs m o x = false) → idxOf m o l = none
 | [], _ => rfl
 | x :: l, h => by
  unfold idxOf
  rw [h x (by simp), if_neg (by decide), idxOf_none (fun y hy => h y (by simp [hy]))]
  rfl
def inR (m o : Int) : Bool := decide (1 ≤ m ∧ m ≤ 10 ∧ 1 ≤ o ∧ o ≤ 13)
theorem idx_out {m o : Int} (h : inR m o = false) : idxOf m o za4 = none := by
 refine idxOf_none fun x hx => ?_
 have h1 := List.all_eq_true.1 tab_range x hx
 rw [decide_eq_true_eq] at h1
 unfold inR at h
 rw [decide_eq_false_iff_not] at h
 unfold rowIs
 rw [Bool.and_eq_false_iff, beq_eq_false_iff_ne, beq_eq_false_iff_ne]
 by_cases e : x.f0 = m
 ·right; intro e2; apply h; omega
 ·left; exact e
def cm (m : Int) : Int := if 1 ≤ m ∧ m ≤ 10 then m else 0
def co (o : Int) : Int := if 1 ≤ o ∧ o ≤ 13 then o else 0
theorem model_cm (m : Int) : zbq.f m = zbq.f (cm m) := by
 unfold cm
 split
 ·rfl
 ·next h =>
  unfold zbq.f
  repeat rw [if_neg (show ¬ m = _ by omega)]
  rfl
theorem op_co (o : Int) : zbt.f o = zbt.f (co o) := by
 unfold co
 split
 ·rfl
 ·next h =>
  unfold zbt.f
  repeat rw [if_neg (show ¬ o = _ by omega)]
  rfl
theorem find_c (k : Nat) (m o : Int) : zax.f k m o = zax.f k (cm m) (co o) := by
 unfold zax.f
 rw [model_cm m, op_co o]
theorem idx_c (m o : Int) : idxOf m o za4 = idxOf (cm m) (co o) za4 := by
 by_cases h : inR m o = true
 ·have h2 : cm m = m ∧ co o = o := by
   unfold inR at h
   rw [decide_eq_true_eq] at h
   unfold cm co
   exact ⟨if_pos ⟨h.1, h.2.1⟩, if_pos h.2.2⟩
  rw [h2.1, h2.2]
 ·have h' : inR m o = false := Bool.eq_false_iff.mpr h
  rw [idx_out h', idx_out (m := cm m) (o := co o)]
  unfold inR at h' ⊢
  rw [decide_eq_false_iff_not] at h' ⊢
  unfold cm co
  split <;> split <;> omega
theorem fs_c (m o : Int) : fs m o = fs (cm m) (co o) := by unfold fs; rw [idx_c]
theorem tab_at (m o : Int) : zbc.f 5 m o = some (argsOf m o) ∧ zax.f 5 m o = some (signOf m o) := by
 have hm : ∃ a : Nat, a < 11 ∧ cm m = (a : Int) := ⟨(cm m).toNat, by unfold cm; split <;> omega, by unfold cm; split <;> omega⟩
 have ho : ∃ a : Nat, a < 14 ∧ co o = (a : Int) := ⟨(co o).toNat, by unfold co; split <;> omega, by unfold co; split <;> omega⟩
 obtain ⟨a, ha, ea⟩ := hm
 obtain ⟨b, hb, eb⟩ := ho
 have h1 := List.all_eq_true.1 tab_all a (List.mem_range.2 ha)
 have h2 := List.all_eq_true.1 h1 b (List.mem_range.2 hb)
 rw [Bool.and_eq_true, decide_eq_true_eq, decide_eq_true_eq, ← ea, ← eb] at h2
 refine ⟨?_, ?_⟩
 ·have e : zbc.f 5 m o = zbc.f 5 (cm m) (co o) := by
   by_cases h : inR m o = true
   ·unfold inR at h
    rw [decide_eq_true_eq] at h
    rw [show cm m = m from if_pos ⟨h.1, h.2.1⟩, show co o = o from if_pos h.2.2]
   ·have h3 := idx_out (Bool.eq_false_iff.mpr h)
    unfold zbc.f zbl.f
    rw [← idx_c, h3]
  rw [e, h2.1]
  unfold argsOf
  rw [← fs_c]
 ·rw [find_c, h2.2]
  unfold signOf
  rw [← fs_c]
theorem ev_args (m o : Int) : Ev (fun k => zbc.f k m o) (argsOf m o) := Ev.of (fun k => zbc.mono m o k) (tab_at m o).1
def Sm (x : S38) : Prop := x.f2.size ≤ 9223372036854775807
def SmL (l : List S38) : Prop := ∀ x ∈ l, Sm x
theorem rd38_mem {l : List S38} {i : Nat} (h : i < l.length) : zai l (i : Int) ∈ l := by
 simp only [zai, Int.toNat_natCast, List.getD_eq_getElem?_getD, List.getElem?_eq_getElem h, Option.getD_some]
 exact List.getElem_mem h
def fitsB (ds : List Int) (a : List S38) : Bool := ds.length == a.length && allN (fun j => tk (rd ds (j : Int)) (zai a (j : Int))) a.length 0
theorem fits_loop (ds : List Int) (a : List S38) (ha : SmL a) (hl : a.length ≤ 9223372036854775807) (he : ds.length = a.length) : ∀ (d i : Nat), i + d = a.length →
  Ev (fun k => zbe.l0 k a ds (ds.length : Int) (i : Int)) (allN (fun j => tk (rd ds (j : Int)) (zai a (j : Int))) d i)
 | 0, i, h => Ev.step (f := fun _ => some true) (fun k => by simp only [zbe.l0]; rw [if_neg (by omega)]) (Ev.now _)
 | d + 1, i, h => by
  have ih := fits_loop ds a ha hl he d (i + 1) (by omega)
  refine Ev.step (f := fun k => (zas.f k (rd ds (i : Int)) (zai a (i : Int)).f0 (zai a (i : Int)).f1 (zai a (i : Int)).f2).bind fun t => (if t = true then zbe.l0 k a ds (ds.length : Int) ((i + 1 : Nat) : Int) else some false)) (fun k => ?_) (Ev.bind (ev_tk _ _ (ha _ (rd38_mem (by omega)))) ?_)
  ·simp only [zbe.l0]
   rw [if_pos (by omega), if_pos (by omega), if_pos (by omega), if_pos (by omega), show wrap64 ((i : Int) + 1) = ((i + 1 : Nat) : Int) from by unfold wrap64; omega]
  ·simp only [allN]
   cases tk (rd ds (i : Int)) (zai a (i : Int)) with
   | true => simpa using ih
   | false => simpa using Ev.now false
theorem ev_fits (ds : List Int) (a : List S38) (ha : SmL a) (hl : a.length ≤ 9223372036854775807) : Ev (fun k => zbe.f k ds a) (fitsB ds a) := by
 unfold fitsB
 by_cases he : ds.length = a.length
 ·rw [show (ds.length == a.length) = true from beq_iff_eq.mpr he, Bool.true_and]
  exact Ev.congr (f := fun k => zbe.l0 k a ds (ds.length : Int) ((0 : Nat) : Int)) (fun k => by unfold zbe.f; rw [if_pos (by omega)]; rfl) (fits_loop ds a ha hl he a.length 0 (by omega))
 ·rw [show (ds.length == a.length) = false from beq_eq_false_iff_ne.mpr he, Bool.false_and]
  exact Ev.congr (f := fun _ => some false) (fun k => by unfold zbe.f; rw [if_neg (by omega)]) (Ev.now _)
def argB (m o : Int) (a : List S38) : Bool := match fs m o with
 | some t => fitsB t.1 a
 | none => false
def zv (x : S38) : Bool := x.f0 == 0 && (x.f1 == 0 && x.f2.size == 0)
def pairB (a : List S38) : Bool := a.length % 2 == 0 && allN (fun j => tk (if j % 2 = 1 then 2 else 4) (zai a (j : Int))) a.length 0
def outB (m o : Int) (a : List S38) : Bool := match fs m o with
 | none => false
 | some t => if t.2.1 < 0 then a.length == 0 else if t.2.1 = 99 then pairB a else a.length == 1 && (tk t.2.1 (zai a 0) || (t.2.2 && zv (zai a 0)))
theorem zv_eq (x : S38) : (x.f0 == 0 && (x.f1 == 0 && (x.f2.toList == ([] : List UInt8)))) = zv x := by unfold zv; rw [toList_nil]
def EvB (g : Nat → Option (List Int × Bool)) (b : Bool) : Prop := ∃ L, Ev g (L, b)
theorem EvB.step {g f : Nat → Option (List Int × Bool)} {b : Bool} (h : ∀ k, g (k + 1) = f k) (k : EvB f b) : EvB g b := by
 obtain ⟨L, hL⟩ := k
 exact ⟨L, Ev.step h hL⟩
theorem EvB.congr {g f : Nat → Option (List Int × Bool)} {b : Bool} (h : ∀ k, g k = f k) (k : EvB f b) : EvB g b := by
 obtain ⟨L, hL⟩ := k
 exact ⟨L, Ev.congr h hL⟩
theorem EvB.now (L : List Int) (b : Bool) : EvB (fun _ => some (L, b)) b := ⟨L, Ev.now _⟩
theorem EvB.bind {α : Type} {g : Nat → Option α} {f : Nat → α → Option (List Int × Bool)} {a : α} {b : Bool} (h : Ev g a) (k : EvB (fun n => f n a) b) : EvB (fun n => (g n).bind (f n)) b := by
 obtain ⟨L, hL⟩ := k
 exact ⟨L, Ev.bind h hL⟩
theorem tmod2 (i : Nat) : Int.tmod (i : Int) 2 = ((i % 2 : Nat) : Int) := by
 rw [Int.tmod_eq_emod_of_nonneg (by omega)]
 omega
theorem pair_loop (a : List S38) (ha : SmL a) (hl : a.length ≤ 4398046511104) : ∀ (d i : Nat) (acc : List Int), i + d = a.length → acc.length ≤ i →
  EvB (fun k => za8.l0 k acc a (a.length : Int) (i : Int)) (allN (fun j => tk (if j % 2 = 1 then 2 else 4) (zai a (j : Int))) d i)
 | 0, i, acc, h, _ => EvB.step (f := fun _ => some (acc, true)) (fun k => by simp only [za8.l0]; rw [if_neg (by omega)]) (EvB.now _ _)
 | d + 1, i, acc, h, hc => by
  have ih := fun e => pair_loop a ha hl d (i + 1) (acc ++ [e]) (by omega) (by simp; omega)
  have hw : wrap64 ((i : Int) + 1) = ((i + 1 : Nat) : Int) := by unfold wrap64; omega
  have hx := ha _ (rd38_mem (show i < a.length by omega))
  simp only [allN]
  by_cases h2 : i % 2 = 1
  ·rw [if_pos h2]
   refine EvB.step (f := fun k => (zas.f k 2 (zai a (i : Int)).f0 (zai a (i : Int)).f1 (zai a (i : Int)).f2).bind fun t => (if t = true then za8.l0 k (acc ++ [2]) a (a.length : Int) ((i + 1 : Nat) : Int) else some ([], false))) (fun k => ?_) (EvB.bind (ev_tk _ _ hx) ?_)
   ·simp only [za8.l0]
    rw [if_pos (by omega), if_pos (by omega), if_pos (by omega), tmod2, if_pos (by omega), hw, if_pos (by omega)]
   ·cases tk 2 (zai a (i : Int)) with
    | true => simpa using ih 2
    | false => simpa using EvB.now [] false
  ·rw [if_neg h2]
   refine EvB.step (f := fun k => (zas.f k 4 (zai a (i : Int)).f0 (zai a (i : Int)).f1 (zai a (i : Int)).f2).bind fun t => (if t = true then za8.l0 k (acc ++ [4]) a (a.length : Int) ((i + 1 : Nat) : Int) else some ([], false))) (fun k => ?_) (EvB.bind (ev_tk _ _ hx) ?_)
   ·simp only [za8.l0]
    rw [if_pos (by omega), if_pos (by omega), if_pos (by omega), tmod2, if_neg (by omega), hw, if_pos (by omega)]
   ·cases tk 4 (zai a (i : Int)) with
    | true => simpa using ih 4
    | false => simpa using EvB.now [] false
theorem ev_paired (a : List S38) (ha : SmL a) (hl : a.length ≤ 4398046511104) : EvB (fun k => za8.f k a) (pairB a) := by
 unfold pairB
 by_cases h : a.length % 2 = 0
 ·rw [show (a.length % 2 == 0) = true from beq_iff_eq.mpr h, Bool.true_and]
  exact EvB.congr (f := fun k => za8.l0 k [] a (a.length : Int) ((0 : Nat) : Int)) (fun k => by unfold za8.f; rw [if_pos (by omega)]; rfl) (pair_loop a ha hl a.length 0 [] (by omega) (by simp))
 ·rw [show (a.length % 2 == 0) = false from beq_eq_false_iff_ne.mpr h, Bool.false_and]
  exact EvB.congr (f := fun _ => some ([], false)) (fun k => by unfold za8.f; rw [if_neg (by omega)]) (EvB.now _ _)
theorem find_row (m o : Int) : zbl.f m o = match idxOf m o za4 with
 | none => some (0, 0, ⟨#[]⟩, 0, false, false)
 | some i => some ((zbi za4 (i : Int)).f0, (zbi za4 (i : Int)).f1, (zbi za4 (i : Int)).f2, (zbi za4 (i : Int)).f3, (zbi za4 (i : Int)).f4, true) := rfl
theorem ev_outs (m o : Int) (a : List S38) (ha : SmL a) (hl : a.length ≤ 4398046511104) : EvB (fun k => zbf.f k m o a) (outB m o a) := by
 unfold outB fs
 have hf := find_row m o
 cases hi : idxOf m o za4 with
 | none =>
  rw [hi] at hf
  refine EvB.congr (f := fun _ => some ([], false)) (fun k => ?_) (EvB.now _ _)
  unfold zbf.f
  rw [hf]
  rfl
 | some i =>
  rw [hi] at hf
  show EvB _ (if (zbi za4 (i : Int)).f3 < 0 then a.length == 0 else if (zbi za4 (i : Int)).f3 = 99 then pairB a else a.length == 1 && (tk (zbi za4 (i : Int)).f3 (zai a 0) || ((zbi za4 (i : Int)).f4 && zv (zai a 0))))
  obtain ⟨r, hr⟩ : ∃ r, r = zbi za4 (i : Int) := ⟨_, rfl⟩
  replace hf : zbl.f m o = some ((zbi za4 (i : Int)).f0, (zbi za4 (i : Int)).f1, (zbi za4 (i : Int)).f2, (zbi za4 (i : Int)).f3, (zbi za4 (i : Int)).f4, true) := hf
  rw [← hr] at hf ⊢
  have hf : zbl.f m o = some (r.f0, r.f1, r.f2, r.f3, r.f4, true) := hf
  clear hr hi
  by_cases h0 : r.f3 < 0
  ·rw [if_pos h0]
   refine EvB.congr (f := fun _ => some ([], a.length == 0)) (fun k => ?_) (EvB.now _ _)
   unfold zbf.f
   rw [hf]
   simp only [Option.bind_some, if_true]
   rw [if_pos h0]
   congr 2
   rw [Bool.eq_iff_iff, beq_iff_eq, beq_iff_eq]
   omega
  ·rw [if_neg h0]
   by_cases h9 : r.f3 = 99
   ·rw [if_pos h9]
    refine EvB.congr (f := fun k => (za8.f k a).bind fun bt150 => some (bt150.1, bt150.2)) (fun k => ?_) ?_
    ·unfold zbf.f
     rw [hf]
     simp only [Option.bind_some, if_true]
     rw [if_neg h0, if_pos h9]
    ·obtain ⟨L, hL⟩ := ev_paired a ha hl
     exact ⟨L, Ev.bind hL (Ev.now _)⟩
   ·rw [if_neg h9]
    by_cases h1 : a.length = 1
    ·rw [show (a.length == 1) = true from beq_iff_eq.mpr h1, Bool.true_and]
     refine EvB.congr (f := fun k => (zas.f k r.f3 (zai a 0).f0 (zai a 0).f1 (zai a 0).f2).bind fun t155 => (if t155 = true then (some ((([r.f3] : List Int)), true)) else (if r.f4 = true then (if ((((zai a 0).f0) == 0 && (((zai a 0).f1) == 0 && ((((zai a 0).f2).toList) == ([] : List UInt8)))) = true) then (some ((([r.f3] : List Int)), true)) else (some (([] : List Int), false))) else (some (([] : List Int), false))))) (fun k => ?_) (EvB.bind (ev_tk _ _ (ha _ (rd38_mem (i := 0) (by omega)))) ?_)
     ·unfold zbf.f
      rw [hf]
      simp only [Option.bind_some, if_true]
      rw [if_neg h0, if_neg h9, if_pos (by omega), if_pos (by omega)]
     ·rw [zv_eq]
      cases tk r.f3 (zai a 0) <;> cases r.f4 <;> cases zv (zai a 0) <;> exact EvB.now _ _
    ·rw [show (a.length == 1) = false from beq_eq_false_iff_ne.mpr h1, Bool.false_and]
     refine EvB.congr (f := fun _ => some ([], false)) (fun k => ?_) (EvB.now _ _)
     unfold zbf.f
     rw [hf]
     simp only [Option.bind_some, if_true]
     rw [if_neg h0, if_neg h9, if_neg (by omega)]
end Go.Proofs.YtikmmigfdchcpaaDoor.PP
