/-
  Proved: a part of the proof of the claim's statement (text L3 of it).
  Conditions: none of ours.
-/
import Derived.Lib.IndexAny
import Derived.Test.YtikmmigfdchcpaaDoorPbQ0
import Derived.Test.YtikmmigfdchcpaaDoorPbL2
import Derived.Test.YtikmmigfdchcpaaDoorPbQ21
import Derived.Test.YtikmmigfdchcpaaDoorPbQ44
import Derived.Test.YtikmmigfdchcpaaDoorPbQ15
namespace Go.Proofs.YtikmmigfdchcpaaDoor.PP
open Go.RowKit Go.Proofs.YtikmmigfdchcpaaDoorW.PrintWords Go.Proofs.YtikmmigfdchcpaaDoorW.PrintLast Go.Proofs.YtikmmigfdchcpaaDoorW.PrintMore
set_option linter.unusedVariables false
set_option linter.unusedSimpArgs false
theorem nl_allN (s : ByteArray) : allN (fun j => bt s (j : Int) != 10) s.size 0 = !(decide (0 ≤ Lib.indexByte s.data.toList 10)) := by
 rw [← Lib.contains_iff_indexByte, Bool.eq_iff_iff, allN_true]
 have hlen := data_length s
 constructor
 ·intro h
  rw [Bool.not_eq_true', ← Bool.not_eq_true, List.contains_iff_mem]
  intro hm
  obtain ⟨j, hj⟩ := List.getElem?_of_mem hm
  obtain ⟨h1, h2⟩ := List.getElem?_eq_some_iff.1 hj
  have h3 := h j (Nat.zero_le _) (by omega)
  rw [bne_iff_ne] at h3
  apply h3
  have h4 : j < s.size := by omega
  unfold bt
  rw [dif_pos (by simpa using h4)]
  have h5 : s[j] = 10 := by
   rw [← h2]
   rfl
  simp only [Int.toNat_natCast]
  rw [h5]
  rfl
 ·intro h j _ hj
  rw [Bool.not_eq_true', ← Bool.not_eq_true, List.contains_iff_mem] at h
  rw [bne_iff_ne]
  intro e
  apply h
  have h4 : j < s.size := by omega
  unfold bt at e
  rw [dif_pos (by simpa using h4)] at e
  simp only [Int.toNat_natCast] at e
  have h5 : s[j] = 10 := by
   apply UInt8.toNat_inj.1
   show s[j].toNat = 10
   omega
  have h6 : s.data.toList[j]? = some 10 := by
   rw [List.getElem?_eq_getElem (by omega), ← h5]
   rfl
  exact List.mem_of_getElem? h6
def noteB (s : ByteArray) (b : Bool) : Bool := decide (s.size ≤ 100) && (!(decide (0 ≤ Lib.indexByte s.data.toList 10)) && (b || s.size == 0))
def restB (x : S47) : Bool := x.f3 == 0 && (x.f5 == 0 && (zv x.f4 && (x.f6.length == 0 && (allN (fun j => vr (zap x.f7 (j : Int))) x.f7.length 0 && (x.f2 == 2 || ((x.f2 == 3 || x.f2 == 4) && x.f7.length == 0))))))
def rB (x : S47) : Bool := decide (0 ≤ x.f0) && (nm x.f1 && (noteB x.f9 x.f8 && (if x.f2 = 1 then argB x.f3 x.f5 x.f6 && (nm x.f4 && x.f7.length == 0) else restB x)))
def Ok47 (x : S47) : Prop := Sm x.f1 ∧ Sm x.f4 ∧ SmL x.f6 ∧ SmL x.f7 ∧ x.f6.length ≤ 4398046511103 ∧ x.f7.length ≤ 4398046511103 ∧ x.f9.size ≤ 9223372036854775807
theorem nm_tk0 (x : S38) : tk 0 x = nm x := rfl
theorem nm_tk1 (x : S38) : tk 1 x = nm x := rfl
theorem noted_eq (x : S47) : zco.f x.f0 x.f1.f0 x.f1.f1 x.f1.f2 x.f2 x.f3 x.f4.f0 x.f4.f1 x.f4.f2 x.f5 x.f6 x.f7 x.f8 x.f9 = some (noteB x.f9 x.f8) := by
 unfold zco.f noteB strings_Contains.f
 rw [if_pos (show (⟨#[10]⟩ : ByteArray).data.toList = [10] from rfl)]
 by_cases h : x.f9.size ≤ 100
 ·rw [if_pos (by omega), decide_eq_true h, Bool.true_and]
  simp only [Option.bind_some]
  rw [zcs]
  cases decide (0 ≤ Lib.indexByte x.f9.data.toList 10) <;> cases x.f8 <;> simp
 ·rw [if_neg (by omega), decide_eq_false h, Bool.false_and]
theorem out_loop (x : S47) (hx : Ok47 x) : ∀ (d i : Nat), i + d = x.f7.length →
  Ev (fun k => za6.l0 k x.f7 (x.f7.length : Int) (i : Int) x.f0 x.f1.f0 x.f1.f1 x.f1.f2 x.f2 x.f3 x.f4.f0 x.f4.f1 x.f4.f2 x.f5 x.f6 x.f7 x.f8 x.f9) (allN (fun j => vr (zap x.f7 (j : Int))) d i && (x.f2 == 2 || ((x.f2 == 3 || x.f2 == 4) && x.f7.length == 0)))
 | 0, i, h => by
  refine Ev.step (f := fun _ => some (x.f2 == 2 || ((x.f2 == 3 || x.f2 == 4) && x.f7.length == 0))) (fun k => ?_) (Ev.now _)
  simp only [za6.l0]
  rw [if_neg (by omega)]
  have e : ((x.f7.length : Int) == 0) = (x.f7.length == 0) := by rw [Bool.eq_iff_iff, beq_iff_eq, beq_iff_eq]; omega
  rw [e]
  by_cases h2 : x.f2 = 2
  ·simp [h2]
  ·by_cases h3 : x.f2 = 3
   ·simp [h3]
   ·by_cases h4 : x.f2 = 4
    ·simp [h4]
    ·simp [h2, h3, h4]
 | d + 1, i, h => by
  have ih := out_loop x hx d (i + 1) (by omega)
  have hl := hx.2.2.2.2.2.1
  refine Ev.step (f := fun k => (zb9.f k (zap x.f7 (i : Int)).f0 (zap x.f7 (i : Int)).f1 (zap x.f7 (i : Int)).f2).bind fun t => (if t = true then za6.l0 k x.f7 (x.f7.length : Int) ((i + 1 : Nat) : Int) x.f0 x.f1.f0 x.f1.f1 x.f1.f2 x.f2 x.f3 x.f4.f0 x.f4.f1 x.f4.f2 x.f5 x.f6 x.f7 x.f8 x.f9 else some false)) (fun k => ?_) (Ev.bind (ev_vr _ (hx.2.2.2.1 _ (rd38_mem (by omega)))) ?_)
  ·simp only [za6.l0]
   rw [if_pos (by omega), if_pos (by omega), if_pos (by omega), show wrap64 ((i : Int) + 1) = ((i + 1 : Nat) : Int) from by unfold wrap64; omega]
  ·simp only [allN]
   cases vr (zap x.f7 (i : Int)) with
   | true => simpa using ih
   | false => simpa using Ev.now false
theorem ev_j1 (x : S47) (hx : Ok47 x) (b : Bool) : Ev (fun k => za6.j1 k b x.f0 x.f1.f0 x.f1.f1 x.f1.f2 x.f2 x.f3 x.f4.f0 x.f4.f1 x.f4.f2 x.f5 x.f6 x.f7 x.f8 x.f9) (!b && (allN (fun j => vr (zap x.f7 (j : Int))) x.f7.length 0 && (x.f2 == 2 || ((x.f2 == 3 || x.f2 == 4) && x.f7.length == 0)))) := by
 cases b with
 | true => exact Ev.step (f := fun _ => some false) (fun k => by simp only [za6.j1]; rfl) (Ev.now _)
 | false =>
  rw [Bool.not_false, Bool.true_and]
  exact Ev.step (f := fun k => za6.l0 k x.f7 (x.f7.length : Int) ((0 : Nat) : Int) x.f0 x.f1.f0 x.f1.f1 x.f1.f2 x.f2 x.f3 x.f4.f0 x.f4.f1 x.f4.f2 x.f5 x.f6 x.f7 x.f8 x.f9) (fun k => by simp only [za6.j1]; rfl) (out_loop x hx x.f7.length 0 (by omega))
theorem zv_not (x : S38) : (!(x.f0 == 0) || (!(x.f1 == 0) || (!(x.f2.toList == ([] : List UInt8))))) = !(zv x) := by
 rw [← zv_eq]
 cases (x.f0 == 0) <;> cases (x.f1 == 0) <;> cases (x.f2.toList == ([] : List UInt8)) <;> rfl
theorem ev_j0 (x : S47) (hx : Ok47 x) (b : Bool) : Ev (fun k => za6.j0 k b x.f0 x.f1.f0 x.f1.f1 x.f1.f2 x.f2 x.f3 x.f4.f0 x.f4.f1 x.f4.f2 x.f5 x.f6 x.f7 x.f8 x.f9) (!b && (if x.f2 = 1 then argB x.f3 x.f5 x.f6 && (nm x.f4 && x.f7.length == 0) else restB x)) := by
 have e7 : ((x.f7.length : Int) == 0) = (x.f7.length == 0) := by rw [Bool.eq_iff_iff, beq_iff_eq, beq_iff_eq]; omega
 cases b with
 | true => exact Ev.step (f := fun _ => some false) (fun k => by simp only [za6.j0]; rfl) (Ev.now _)
 | false =>
  rw [Bool.not_false, Bool.true_and]
  by_cases h1 : x.f2 = 1
  ·rw [if_pos h1]
   refine Ev.step (f := fun k => (zbu.f k x.f3 x.f5).bind fun bt124 => (if bt124.2 = true then ((za9.f k 1 x.f4.f0 x.f4.f1 x.f4.f2).bind fun t128 => (if t128 = true then ((zby.f k bt124.1 x.f6).bind fun t129 => (if t129 = true then (some ((x.f7.length : Int) == 0)) else (some false))) else (some false))) else (some false))) (fun k => ?_) (Ev.bind (ev_args _ _) ?_)
   ·simp only [za6.j0]
    rw [if_neg (by decide), if_pos h1]
   ·unfold argsOf argB
    cases fs x.f3 x.f5 with
    | none => simpa using Ev.now false
    | some t =>
     simp only [if_true]
     refine Ev.bind (ev_tk 1 x.f4 hx.2.1) ?_
     rw [nm_tk1]
     cases nm x.f4 with
     | false => simpa using Ev.now false
     | true =>
      simp only [if_true, Bool.true_and]
      refine Ev.bind (ev_fits t.1 x.f6 hx.2.2.1 (by have := hx.2.2.2.2.1; omega)) ?_
      rw [e7]
      cases fitsB t.1 x.f6 with
      | false => simpa using Ev.now false
      | true => simpa using Ev.now (x.f7.length == 0)
  ·rw [if_neg h1]
   unfold restB
   refine Ev.step (f := fun k => za6.j1 k (!(x.f3 == 0 && (x.f5 == 0 && (zv x.f4 && x.f6.length == 0)))) x.f0 x.f1.f0 x.f1.f1 x.f1.f2 x.f2 x.f3 x.f4.f0 x.f4.f1 x.f4.f2 x.f5 x.f6 x.f7 x.f8 x.f9) (fun k => ?_) ?_
   ·simp only [za6.j0]
    rw [if_neg (by decide), if_neg h1, zv_not]
    by_cases h3 : x.f3 = 0
    ·rw [if_pos h3, show (x.f3 == 0) = true from beq_iff_eq.mpr h3, Bool.true_and]
     by_cases h5 : x.f5 = 0
     ·rw [if_pos h5, show (x.f5 == 0) = true from beq_iff_eq.mpr h5, Bool.true_and]
      cases zv x.f4 with
      | false => rfl
      | true =>
       rw [if_neg (by decide), Bool.true_and]
       congr 1
       by_cases h6 : x.f6.length = 0
       ·rw [show (x.f6.length == 0) = true from beq_iff_eq.mpr h6]
        exact decide_eq_false (by omega)
       ·rw [show (x.f6.length == 0) = false from beq_eq_false_iff_ne.mpr h6]
        exact decide_eq_true (by omega)
     ·rw [if_neg h5, show (x.f5 == 0) = false from beq_eq_false_iff_ne.mpr h5, Bool.false_and]
      rfl
    ·rw [if_neg h3, show (x.f3 == 0) = false from beq_eq_false_iff_ne.mpr h3, Bool.false_and]
     rfl
   ·have h := ev_j1 x hx (!(x.f3 == 0 && (x.f5 == 0 && (zv x.f4 && x.f6.length == 0))))
    rw [Bool.not_not, Bool.and_assoc, Bool.and_assoc, Bool.and_assoc] at h
    exact h
theorem ev_right (x : S47) (hx : Ok47 x) : Ev (fun k => za6.f k x.f0 x.f1.f0 x.f1.f1 x.f1.f2 x.f2 x.f3 x.f4.f0 x.f4.f1 x.f4.f2 x.f5 x.f6 x.f7 x.f8 x.f9) (rB x) := by
 unfold rB
 by_cases h0 : 0 ≤ x.f0
 ·rw [decide_eq_true h0, Bool.true_and]
  refine Ev.congr (f := fun k => (za9.f k 0 x.f1.f0 x.f1.f1 x.f1.f2).bind fun t122 => (if t122 = true then (za6.j0 k (!(noteB x.f9 x.f8)) x.f0 x.f1.f0 x.f1.f1 x.f1.f2 x.f2 x.f3 x.f4.f0 x.f4.f1 x.f4.f2 x.f5 x.f6 x.f7 x.f8 x.f9) else (za6.j0 k true x.f0 x.f1.f0 x.f1.f1 x.f1.f2 x.f2 x.f3 x.f4.f0 x.f4.f1 x.f4.f2 x.f5 x.f6 x.f7 x.f8 x.f9))) (fun k => ?_) (Ev.bind (ev_tk 0 x.f1 hx.1) ?_)
  ·unfold za6.f
   rw [if_neg (by omega), noted_eq]
   rfl
  ·rw [nm_tk0]
   cases nm x.f1 with
   | false => simpa using ev_j0 x hx true
   | true =>
    have h := ev_j0 x hx (!(noteB x.f9 x.f8))
    rw [Bool.not_not] at h
    simpa using h
 ·rw [decide_eq_false h0, Bool.false_and]
  refine Ev.congr (f := fun k => za6.j0 k true x.f0 x.f1.f0 x.f1.f1 x.f1.f2 x.f2 x.f3 x.f4.f0 x.f4.f1 x.f4.f2 x.f5 x.f6 x.f7 x.f8 x.f9) (fun k => ?_) (ev_j0 x hx true)
  unfold za6.f
  rw [if_pos (by omega)]
theorem rout_loop (x : S47) (hx : Ok47 x) : ∀ (d i : Nat), i + d = x.f7.length →
  Ev (fun k => zao.l1 k (i : Int) x.f0 x.f1.f0 x.f1.f1 x.f1.f2 x.f2 x.f3 x.f4.f0 x.f4.f1 x.f4.f2 x.f5 x.f6 x.f7 x.f8 x.f9) (allN (fun j => vr (zap x.f7 (j : Int))) d i && (x.f2 == 2 || x.f7.length == 0))
 | 0, i, h => by
  refine Ev.step (f := fun _ => some (x.f2 == 2 || x.f7.length == 0)) (fun k => ?_) (Ev.now _)
  simp only [zao.l1]
  rw [if_neg (by omega)]
  have e : ((x.f7.length : Int) == 0) = (x.f7.length == 0) := by rw [Bool.eq_iff_iff, beq_iff_eq, beq_iff_eq]; omega
  rw [e]
  by_cases h2 : x.f2 = 2 <;> simp [h2]
 | d + 1, i, h => by
  have ih := rout_loop x hx d (i + 1) (by omega)
  have hl := hx.2.2.2.2.2.1
  refine Ev.step (f := fun k => (zax.f k (zap x.f7 (i : Int)).f0 (zap x.f7 (i : Int)).f1 (zap x.f7 (i : Int)).f2).bind fun t => (if t = true then zao.l1 k ((i + 1 : Nat) : Int) x.f0 x.f1.f0 x.f1.f1 x.f1.f2 x.f2 x.f3 x.f4.f0 x.f4.f1 x.f4.f2 x.f5 x.f6 x.f7 x.f8 x.f9 else some false)) (fun k => ?_) (Ev.bind (ev_rvr _ (hx.2.2.2.1 _ (rd38_mem (by omega)))) ?_)
  ·simp only [zao.l1]
   rw [if_pos (by omega), if_pos (by omega), show wrap64 ((i : Int) + 1) = ((i + 1 : Nat) : Int) from by unfold wrap64; omega]
  ·simp only [allN]
   cases vr (zap x.f7 (i : Int)) with
   | true => simpa using ih
   | false => simpa using Ev.now false
theorem ev_rj2 (x : S47) (hx : Ok47 x) (b : Bool) : Ev (fun k => zao.j2 k b x.f0 x.f1.f0 x.f1.f1 x.f1.f2 x.f2 x.f3 x.f4.f0 x.f4.f1 x.f4.f2 x.f5 x.f6 x.f7 x.f8 x.f9) (!b && (allN (fun j => vr (zap x.f7 (j : Int))) x.f7.length 0 && (x.f2 == 2 || x.f7.length == 0))) := by
 cases b with
 | true => exact Ev.step (f := fun _ => some false) (fun k => by simp only [zao.j2]; rfl) (Ev.now _)
 | false =>
  rw [Bool.not_false, Bool.true_and]
  exact Ev.step (f := fun k => zao.l1 k ((0 : Nat) : Int) x.f0 x.f1.f0 x.f1.f1 x.f1.f2 x.f2 x.f3 x.f4.f0 x.f4.f1 x.f4.f2 x.f5 x.f6 x.f7 x.f8 x.f9) (fun k => by simp only [zao.j2]; rfl) (rout_loop x hx x.f7.length 0 (by omega))
theorem zv_notr (x : S38) : (!(x.f0 == 0) || (!(x.f1 == 0) || (!(x.f2.toList == (⟨#[]⟩ : ByteArray).toList)))) = !(zv x) := by
 rw [show (⟨#[]⟩ : ByteArray).toList = [] from by rw [ByteArray.toList_eq]]
 exact zv_not x
theorem ev_rend (x : S47) (hx : Ok47 x) (i : Int) (hi : (x.f9.size : Int) ≤ i) : Ev (fun k => zao.l0 k i x.f0 x.f1.f0 x.f1.f1 x.f1.f2 x.f2 x.f3 x.f4.f0 x.f4.f1 x.f4.f2 x.f5 x.f6 x.f7 x.f8 x.f9 0 0 (⟨#[]⟩ : ByteArray)) (if x.f2 = 1 then argB x.f3 x.f5 x.f6 && (nm x.f4 && x.f7.length == 0) else restB x) := by
 have e7 : ((x.f7.length : Int) == 0) = (x.f7.length == 0) := by rw [Bool.eq_iff_iff, beq_iff_eq, beq_iff_eq]; omega
 by_cases h1 : x.f2 = 1
 ·rw [if_pos h1]
  refine Ev.step (f := fun k => (zaw.f k x.f3 x.f5 x.f6).bind fun t252 => (if t252 = true then ((zbi.f k x.f4.f0 x.f4.f1 x.f4.f2).bind fun t253 => (if t253 = true then (some ((x.f7.length : Int) == 0)) else (some false))) else (some false))) (fun k => ?_) (Ev.bind (ev_rfits _ _ _ hx.2.2.1 (by have := hx.2.2.2.2.1; omega)) ?_)
  ·simp only [zao.l0]
   rw [if_neg (by omega), if_pos h1]
  ·cases argB x.f3 x.f5 x.f6 with
   | false => simpa using Ev.now false
   | true =>
    simp only [if_true, Bool.true_and]
    refine Ev.bind (ev_name x.f4 hx.2.1) ?_
    rw [e7]
    cases nm x.f4 with
    | false => simpa using Ev.now false
    | true => simpa using Ev.now (x.f7.length == 0)
 ·rw [if_neg h1]
  refine Ev.step (f := fun k => zao.j2 k (!((decide (2 ≤ x.f2) && decide (x.f2 ≤ 4)) && (x.f3 == 0 && (x.f5 == 0 && (zv x.f4 && x.f6.length == 0))))) x.f0 x.f1.f0 x.f1.f1 x.f1.f2 x.f2 x.f3 x.f4.f0 x.f4.f1 x.f4.f2 x.f5 x.f6 x.f7 x.f8 x.f9) (fun k => ?_) ?_
  ·simp only [zao.l0]
   rw [if_neg (by omega), if_neg h1, zv_notr]
   by_cases h2 : x.f2 < 2
   ·rw [if_pos h2, show decide (2 ≤ x.f2) = false from decide_eq_false (by omega)]
    rfl
   ·rw [if_neg h2, show decide (2 ≤ x.f2) = true from decide_eq_true (by omega), Bool.true_and]
    by_cases h4 : x.f2 > 4
    ·rw [if_pos h4, show decide (x.f2 ≤ 4) = false from decide_eq_false (by omega)]
     rfl
    ·rw [if_neg h4, show decide (x.f2 ≤ 4) = true from decide_eq_true (by omega), Bool.true_and]
     by_cases h3 : x.f3 = 0
     ·rw [if_pos h3, show (x.f3 == 0) = true from beq_iff_eq.mpr h3, Bool.true_and]
      by_cases h5 : x.f5 = 0
      ·rw [if_pos h5, show (x.f5 == 0) = true from beq_iff_eq.mpr h5, Bool.true_and]
       cases zv x.f4 with
       | false => rfl
       | true =>
        rw [if_neg (by decide), Bool.true_and]
        congr 1
        by_cases h6 : x.f6.length = 0
        ·rw [show (x.f6.length == 0) = true from beq_iff_eq.mpr h6]
         exact decide_eq_false (by omega)
        ·rw [show (x.f6.length == 0) = false from beq_eq_false_iff_ne.mpr h6]
         exact decide_eq_true (by omega)
      ·rw [if_neg h5, show (x.f5 == 0) = false from beq_eq_false_iff_ne.mpr h5, Bool.false_and]
       rfl
     ·rw [if_neg h3, show (x.f3 == 0) = false from beq_eq_false_iff_ne.mpr h3, Bool.false_and]
      rfl
  ·have h := ev_rj2 x hx (!((decide (2 ≤ x.f2) && decide (x.f2 ≤ 4)) && (x.f3 == 0 && (x.f5 == 0 && (zv x.f4 && x.f6.length == 0)))))
   rw [Bool.not_not] at h
   have e : ((decide (2 ≤ x.f2) && decide (x.f2 ≤ 4)) && (x.f3 == 0 && (x.f5 == 0 && (zv x.f4 && x.f6.length == 0))) && (allN (fun j => vr (zap x.f7 (j : Int))) x.f7.length 0 && (x.f2 == 2 || x.f7.length == 0))) = restB x := by
    unfold restB
    by_cases a2 : x.f2 = 2
    ·rw [a2]
     cases (x.f3 == 0) <;> cases (x.f5 == 0) <;> cases zv x.f4 <;> cases (x.f6.length == 0) <;> cases allN (fun j => vr (zap x.f7 (j : Int))) x.f7.length 0 <;> rfl
    ·by_cases a3 : x.f2 = 3
     ·rw [a3]
      cases (x.f3 == 0) <;> cases (x.f5 == 0) <;> cases zv x.f4 <;> cases (x.f6.length == 0) <;> cases allN (fun j => vr (zap x.f7 (j : Int))) x.f7.length 0 <;> rfl
     ·by_cases a4 : x.f2 = 4
      ·rw [a4]
       cases (x.f3 == 0) <;> cases (x.f5 == 0) <;> cases zv x.f4 <;> cases (x.f6.length == 0) <;> cases allN (fun j => vr (zap x.f7 (j : Int))) x.f7.length 0 <;> rfl
      ·rw [show (decide (2 ≤ x.f2) && decide (x.f2 ≤ 4)) = false from by rw [Bool.and_eq_false_iff, decide_eq_false_iff_not, decide_eq_false_iff_not]; omega, show (x.f2 == 2) = false from beq_eq_false_iff_ne.mpr a2, show (x.f2 == 3) = false from beq_eq_false_iff_ne.mpr a3, show (x.f2 == 4) = false from beq_eq_false_iff_ne.mpr a4]
       simp
   rw [e] at h
   exact h
theorem note_loop (x : S47) (hx : Ok47 x) : ∀ (d i : Nat), i + d = x.f9.size →
  Ev (fun k => zao.l0 k (i : Int) x.f0 x.f1.f0 x.f1.f1 x.f1.f2 x.f2 x.f3 x.f4.f0 x.f4.f1 x.f4.f2 x.f5 x.f6 x.f7 x.f8 x.f9 0 0 (⟨#[]⟩ : ByteArray)) (allN (fun j => bt x.f9 (j : Int) != 10) d i && (if x.f2 = 1 then argB x.f3 x.f5 x.f6 && (nm x.f4 && x.f7.length == 0) else restB x))
 | 0, i, h => ev_rend x hx (i : Int) (by omega)
 | d + 1, i, h => by
  have ih := note_loop x hx d (i + 1) (by omega)
  have hl := hx.2.2.2.2.2.2
  simp only [allN]
  by_cases e : bt x.f9 (i : Int) = 10
  ·rw [show (bt x.f9 (i : Int) != 10) = false from bne_eq_false_iff_eq.mpr e]
   refine Ev.step (f := fun _ => some false) (fun k => ?_) (Ev.now _)
   simp only [zao.l0]
   rw [if_pos (by omega), if_pos (by omega), if_pos e]
  ·rw [show (bt x.f9 (i : Int) != 10) = true from bne_iff_ne.mpr e, Bool.true_and]
   refine Ev.step (fun k => ?_) ih
   simp only [zao.l0]
   rw [if_pos (by omega), if_pos (by omega), if_neg e, show wrap64 ((i : Int) + 1) = ((i + 1 : Nat) : Int) from by unfold wrap64; omega]
theorem ev_rj0 (x : S47) (hx : Ok47 x) (b : Bool) : Ev (fun k => zao.j0 k b x.f0 x.f1.f0 x.f1.f1 x.f1.f2 x.f2 x.f3 x.f4.f0 x.f4.f1 x.f4.f2 x.f5 x.f6 x.f7 x.f8 x.f9 0 0 (⟨#[]⟩ : ByteArray)) (!b && (!(decide (0 ≤ Lib.indexByte x.f9.data.toList 10)) && (if x.f2 = 1 then argB x.f3 x.f5 x.f6 && (nm x.f4 && x.f7.length == 0) else restB x))) := by
 cases b with
 | true => exact Ev.step (f := fun _ => some false) (fun k => by simp only [zao.j0]; rfl) (Ev.now _)
 | false =>
  rw [Bool.not_false, Bool.true_and, ← nl_allN]
  exact Ev.step (f := fun k => zao.l0 k ((0 : Nat) : Int) x.f0 x.f1.f0 x.f1.f1 x.f1.f2 x.f2 x.f3 x.f4.f0 x.f4.f1 x.f4.f2 x.f5 x.f6 x.f7 x.f8 x.f9 0 0 (⟨#[]⟩ : ByteArray)) (fun k => by simp only [zao.j0]; rfl) (note_loop x hx x.f9.size 0 (by omega))
theorem ev_rright (x : S47) (hx : Ok47 x) : Ev (fun k => zao.f k x.f0 x.f1.f0 x.f1.f1 x.f1.f2 x.f2 x.f3 x.f4.f0 x.f4.f1 x.f4.f2 x.f5 x.f6 x.f7 x.f8 x.f9) (rB x) := by
 unfold rB
 by_cases h0 : 0 ≤ x.f0
 ·rw [decide_eq_true h0, Bool.true_and]
  refine Ev.congr (f := fun k => (zbi.f k x.f1.f0 x.f1.f1 x.f1.f2).bind fun t251 => (if t251 = true then (zao.j0 k (!(decide (x.f9.size ≤ 100) && (x.f8 || x.f9.size == 0))) x.f0 x.f1.f0 x.f1.f1 x.f1.f2 x.f2 x.f3 x.f4.f0 x.f4.f1 x.f4.f2 x.f5 x.f6 x.f7 x.f8 x.f9 0 0 (⟨#[]⟩ : ByteArray)) else (zao.j0 k true x.f0 x.f1.f0 x.f1.f1 x.f1.f2 x.f2 x.f3 x.f4.f0 x.f4.f1 x.f4.f2 x.f5 x.f6 x.f7 x.f8 x.f9 0 0 (⟨#[]⟩ : ByteArray)))) (fun k => ?_) (Ev.bind (ev_name x.f1 hx.1) ?_)
  ·unfold zao.f
   rw [if_neg (by omega)]
   congr 1
   funext t
   have e1 : (x.f9.toList != ([] : List UInt8)) = !(x.f9.size == 0) := by
    show (!(x.f9.toList == ([] : List UInt8))) = _
    rw [zcs]
   rw [e1]
   cases t with
   | false => rfl
   | true =>
    rw [if_pos rfl, if_pos rfl]
    by_cases h : x.f9.size ≤ 100
    ·rw [if_neg (show ¬ (x.f9.size : Int) > 100 by omega), decide_eq_true h, Bool.true_and]
     cases x.f8 <;> simp
    ·rw [if_pos (show (x.f9.size : Int) > 100 by omega), decide_eq_false h, Bool.false_and]
     rfl
  ·cases nm x.f1 with
   | false => simpa using ev_rj0 x hx true
   | true =>
    have h := ev_rj0 x hx (!(decide (x.f9.size ≤ 100) && (x.f8 || x.f9.size == 0)))
    rw [Bool.not_not] at h
    have e : (decide (x.f9.size ≤ 100) && (x.f8 || x.f9.size == 0) && (!(decide (0 ≤ Lib.indexByte x.f9.data.toList 10)) && (if x.f2 = 1 then argB x.f3 x.f5 x.f6 && (nm x.f4 && x.f7.length == 0) else restB x))) = (noteB x.f9 x.f8 && (if x.f2 = 1 then argB x.f3 x.f5 x.f6 && (nm x.f4 && x.f7.length == 0) else restB x)) := by
     unfold noteB
     cases decide (x.f9.size ≤ 100) <;> cases (x.f8 || x.f9.size == 0) <;> cases decide (0 ≤ Lib.indexByte x.f9.data.toList 10) <;> rfl
    rw [e] at h
    simpa using h
 ·rw [decide_eq_false h0, Bool.false_and]
  refine Ev.congr (f := fun k => zao.j0 k true x.f0 x.f1.f0 x.f1.f1 x.f1.f2 x.f2 x.f3 x.f4.f0 x.f4.f1 x.f4.f2 x.f5 x.f6 x.f7 x.f8 x.f9 0 0 (⟨#[]⟩ : ByteArray)) (fun k => ?_) (ev_rj0 x hx true)
  unfold zao.f
  rw [if_pos (by omega)]
end Go.Proofs.YtikmmigfdchcpaaDoor.PP
