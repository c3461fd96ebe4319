/-
  Proved: a part of the proof of the claim's statement (text L6 of it).
  Conditions: none of ours.
-/
import Derived.Test.YtikmmigfdchcpaaDoorPeQ0
import Derived.Test.YtikmmigfdchcpaaDoorPeL5
import Derived.Test.YtikmmigfdchcpaaDoorPeO
import Derived.Test.YtikmmigfdchcpaaDoorPeQ1
import Derived.Test.YtikmmigfdchcpaaDoorPeQ63
import Derived.Test.YtikmmigfdchcpaaDoorPeQ34
import Derived.Test.YtikmmigfdchcpaaDoorPeQ51
import Derived.Test.YtikmmigfdchcpaaDoorPeQ4
import Derived.Test.YtikmmigfdchcpaaDoorPeQ41
import Derived.Test.YtikmmigfdchcpaaDoorPeK
import Derived.Test.YtikmmigfdchcpaaDoorPeQ62
namespace Go.Proofs.YtikmmigfdchcpaaDoor.PP
open Go.RowKit Go.Proofs.YtikmmigfdchcpaaDoorW.PrintWords Go.Proofs.YtikmmigfdchcpaaDoorW.PrintLast Go.Proofs.YtikmmigfdchcpaaDoorW.PrintMore
set_option linter.unusedVariables false
set_option linter.unusedSimpArgs false
def opRow (l : List S47) (i : Nat) (out : List S38) (r : Int) : S41 := ⟨(ev l i).f1, (ev l i).f3, (ev l i).f4, (ev l i).f5, (ev l i).f6, out, (i : Int), r⟩
def opS (l : List S47) (i : Nat) : List S41 :=
 if (ev l i).f2 = 1 then (match nxt l l.length i with
  | some q => if (ev l q).f2 = 3 then [] else if (ev l q).f2 = 2 then [opRow l i (ev l q).f7 (q : Int)] else [opRow l i [] (-1)]
  | none => [opRow l i [] (-1)])
 else []
def opsF (l : List S47) : Nat → Nat → List S41
 | 0, _ => []
 | d + 1, i => opS l i ++ opsF l d (i + 1)
theorem opAt_eq {l : List S47} (hg : Good l) {s : St} (hI : Inv l l.length s) {i : Nat} (hi : i < l.length) : opAt l s.gone s.ends (i : Int) = some (opS l i) := by
 have hx := (hg.2 _ (ev_mem hi)).1
 have hlen := hI.len
 unfold opAt opS
 show (if (ev l i).f2 = 1 then _ else _) = _
 by_cases h1 : (ev l i).f2 = 1
 ·rw [if_pos h1, if_pos h1]
  have hb : (zav l (i : Int)).f6.length < 4398046511104 := by have := hx.2.2.2.2.1; show (ev l i).f6.length < _; omega
  cases hq : nxt l l.length i with
  | none =>
   have hno := nxt_none.1 hq
   have hgone : decide ((i : Int) ∈ s.gone) = false := by
    rw [decide_eq_false_iff_not, hI.gone]
    rintro ⟨a, q, e, hql, hn, _⟩
    have : a = i := by omega
    subst this
    exact hno q hql hn
   have hz : rd s.ends (i : Int) = 0 := by
    by_cases e : rd s.ends (i : Int) = 0
    ·exact e
    ·obtain ⟨q, hq, hn, _⟩ := hI.ends2 i e
     exact absurd hn (hno q hq)
   rw [hgone, if_neg (by decide), if_pos (by omega), if_pos hb, hz, if_neg (by decide)]
   rfl
  | some q =>
   obtain ⟨hn, hql⟩ := nxt_iff.1 hq
   have hiq := nx_lt hn
   have hgone : decide ((i : Int) ∈ s.gone) = decide ((ev l q).f2 = 3) := by
    rw [decide_eq_decide, hI.gone]
    constructor
    ·rintro ⟨a, q2, e, hq2, hn2, h3⟩
     have : a = i := by omega
     subst this
     rw [nx_right hn hn2]
     exact h3
    ·intro h3
     exact ⟨i, q, rfl, hql, hn, h3⟩
   rw [hgone]
   by_cases h3 : (ev l q).f2 = 3
   ·rw [decide_eq_true h3, if_pos rfl]
    show some [] = some (if (ev l q).f2 = 3 then _ else _)
    rw [if_pos h3]
   ·rw [decide_eq_false h3, if_neg (by decide), if_pos (by omega), if_pos hb]
    show _ = some (if (ev l q).f2 = 3 then _ else if (ev l q).f2 = 2 then _ else _)
    rw [if_neg h3]
    by_cases h2 : (ev l q).f2 = 2
    ·have he := hI.ends1 i q hql hn h2
     have hxq := (hg.2 _ (ev_mem hql)).1
     rw [if_pos h2, he, if_pos (by omega), if_pos (by omega), if_pos (by have := hxq.2.2.2.2.2.1; show (ev l q).f7.length < _; omega)]
     rfl
    ·have hz : rd s.ends (i : Int) = 0 := by
      by_cases e : rd s.ends (i : Int) = 0
      ·exact e
      ·obtain ⟨q2, hq2, hn2, h22, _⟩ := hI.ends2 i e
       rw [nx_right hn hn2] at h2
       exact absurd h22 h2
     rw [if_neg h2, hz, if_neg (by decide)]
     rfl
 ·rw [if_neg h1, if_neg h1]
theorem opL_eq {l : List S47} (hg : Good l) {s : St} (hI : Inv l l.length s) : ∀ (d i : Nat) (out : List S41), i + d = l.length → opL l s.gone s.ends (d + 1) (i : Int) out = some (out ++ opsF l d i)
 | 0, i, out, h => by
  rw [opL, if_neg (by omega)]
  simp [opsF]
 | d + 1, i, out, h => by
  rw [opL, if_pos (by omega), opAt_eq hg hI (by omega)]
  simp only [Option.bind_some, opsF]
  have := opL_eq hg hI d (i + 1) (out ++ opS l i) (by omega)
  rw [List.append_assoc] at this
  exact this
def opsS (l : List S47) : List S41 × Int × Int := (if (chkS l l.length 0).1 = 0 then opsF l l.length 0 else [], (chkS l l.length 0).1, (chkS l l.length 0).2)
theorem ev_opers (l : List S47) (hg : Good l) : Ev (fun k => zby.f k l) (opsS l) := by
 obtain ⟨s', h, hI⟩ := ev_all l hg
 refine Ev.congr (f := fun k => (allF k l).bind fun r => (if r.1 = 0 then (opL l r.2.2.gone r.2.2.ends (l.length + 1) 0 []).bind fun out => some (out, r.1, r.2.1) else some ([], r.1, r.2.1))) (fun k => by unfold zby.f; rw [if_pos hg.1]) (Ev.bind h ?_)
 unfold opsS
 by_cases h0 : (chkS l l.length 0).1 = 0
 ·have e := opL_eq hg (hI h0) l.length 0 [] (by omega)
  rw [List.nil_append] at e
  refine Ev.congr (f := fun _ => some (opsF l l.length 0, (chkS l l.length 0).1, (chkS l l.length 0).2)) (fun k => ?_) (by rw [if_pos h0]; exact Ev.now _)
  show (if (chkS l l.length 0).1 = 0 then (opL l s'.gone s'.ends (l.length + 1) ((0 : Nat) : Int) []).bind _ else _) = _
  rw [if_pos h0, e]
  rfl
 ·simp only [h0, if_false]
  exact Ev.now _
theorem vals_loop (v : List S38) (hl : v.length ≤ 9223372036854775807) : ∀ (d i : Nat), i + d = v.length → Ev (fun k => zat.l0 k v v (i : Int)) true
 | 0, i, h => Ev.step (f := fun _ => some true) (fun k => by simp only [zat.l0]; rw [if_neg (by omega)]) (Ev.now _)
 | d + 1, i, h => by
  refine Ev.step (fun k => ?_) (vals_loop v hl d (i + 1) (by omega))
  simp only [zat.l0]
  rw [if_pos (by omega), if_pos (by omega), if_pos (by omega), if_neg (by simp), show wrap64 ((i : Int) + 1) = ((i + 1 : Nat) : Int) from by unfold wrap64; omega]
theorem ev_vals (v : List S38) (hl : v.length ≤ 9223372036854775807) : Ev (fun k => zat.f k v v) true :=
 Ev.congr (fun k => by unfold zat.f; rw [if_pos rfl]; rfl) (vals_loop v hl v.length 0 (by omega))
def OkOp (x : S41) : Prop := x.f4.length ≤ 9223372036854775807 ∧ x.f5.length ≤ 9223372036854775807
theorem ev_one (x : S41) (h : OkOp x) : Ev (fun k => zbk.f k x.f0.f0 x.f0.f1 x.f0.f2 x.f1 x.f2.f0 x.f2.f1 x.f2.f2 x.f3 x.f4 x.f5 x.f6 x.f7 x.f0.f0 x.f0.f1 x.f0.f2 x.f1 x.f2.f0 x.f2.f1 x.f2.f2 x.f3 x.f4 x.f5 x.f6 x.f7) true := by
 refine Ev.congr (f := fun k => (zat.f k x.f4 x.f4).bind fun t => (if t = true then ((zat.f k x.f5 x.f5).bind fun t2 => (if t2 = true then (some true) else some false)) else some false)) (fun k => ?_) (Ev.bind (ev_vals _ h.1) ?_)
 ·unfold zbk.f
  simp
 ·simp only [if_true]
  exact Ev.bind (ev_vals _ h.2) (by simpa using Ev.now true)
theorem great1 (x : S47) (hx : Ok47 x) : ∀ (d i : Nat) (n : Int), i + d = x.f7.length → ∃ b, Ev (fun k => zap.l1 k n (i : Int) x.f0 x.f1.f0 x.f1.f1 x.f1.f2 x.f2 x.f3 x.f4.f0 x.f4.f1 x.f4.f2 x.f5 x.f6 x.f7 x.f8 x.f9) b
 | 0, i, n, h => ⟨decide (n > 2000), Ev.step (f := fun _ => some (decide (n > 2000))) (fun k => by simp only [zap.l1]; rw [if_neg (by omega)]) (Ev.now _)⟩
 | d + 1, i, n, h => by
  have hl := hx.2.2.2.2.2.1
  by_cases hn : n ≤ 2000
  ·obtain ⟨b, hb⟩ := great1 x hx d (i + 1) (wrap64 ((wrap64 (n + 1)) + (((zai x.f7 (i : Int)).f2).size : Int))) (by omega)
   refine ⟨b, Ev.step (fun k => ?_) hb⟩
   simp only [zap.l1]
   rw [if_pos (by omega), if_pos hn, if_pos (by omega), show wrap64 ((i : Int) + 1) = ((i + 1 : Nat) : Int) from by unfold wrap64; omega]
  ·refine ⟨decide (n > 2000), Ev.step (f := fun _ => some (decide (n > 2000))) (fun k => ?_) (Ev.now _)⟩
   simp only [zap.l1]
   rw [if_pos (by omega), if_neg hn]
theorem great0 (x : S47) (hx : Ok47 x) : ∀ (d i : Nat) (n : Int), i + d = x.f6.length → ∃ b, Ev (fun k => zap.l0 k n (i : Int) x.f0 x.f1.f0 x.f1.f1 x.f1.f2 x.f2 x.f3 x.f4.f0 x.f4.f1 x.f4.f2 x.f5 x.f6 x.f7 x.f8 x.f9) b := by
 have hj : ∀ n : Int, ∃ b, Ev (fun k => zap.j1 k n x.f0 x.f1.f0 x.f1.f1 x.f1.f2 x.f2 x.f3 x.f4.f0 x.f4.f1 x.f4.f2 x.f5 x.f6 x.f7 x.f8 x.f9) b := by
  intro n
  obtain ⟨b, hb⟩ := great1 x hx x.f7.length 0 n (by omega)
  exact ⟨b, Ev.step (fun k => by simp only [zap.j1]; rfl) hb⟩
 intro d
 induction d with
 | zero =>
  intro i n h
  obtain ⟨b, hb⟩ := hj n
  exact ⟨b, Ev.step (fun k => by simp only [zap.l0]; rw [if_neg (by omega)]) hb⟩
 | succ d ih =>
  intro i n h
  have hl := hx.2.2.2.2.1
  by_cases hn : n ≤ 2000
  ·obtain ⟨b, hb⟩ := ih (i + 1) (wrap64 ((wrap64 (n + 1)) + (((zai x.f6 (i : Int)).f2).size : Int))) (by omega)
   refine ⟨b, Ev.step (fun k => ?_) hb⟩
   simp only [zap.l0]
   rw [if_pos (by omega), if_pos hn, if_pos (by omega), show wrap64 ((i : Int) + 1) = ((i + 1 : Nat) : Int) from by unfold wrap64; omega]
  ·obtain ⟨b, hb⟩ := hj n
   refine ⟨b, Ev.step (fun k => ?_) hb⟩
   simp only [zap.l0]
   rw [if_pos (by omega), if_neg hn]
def DataOk (l : List S47) : Prop := ∀ x ∈ l, Ok47 x ∧ keyOk x.f1 = true
theorem great_loop (l : List S47) (hd : DataOk l) (hl : l.length ≤ 60) : ∀ (d i : Nat), i + d = l.length → ∃ b, Ev (fun k => za0.l0 k l (i : Int)) b
 | 0, i, h => ⟨false, Ev.step (f := fun _ => some false) (fun k => by simp only [za0.l0]; rw [if_neg (by omega)]) (Ev.now _)⟩
 | d + 1, i, h => by
  have hx := (hd _ (ev_mem (show i < l.length by omega))).1
  obtain ⟨b, hb⟩ := great0 (ev l i) hx (ev l i).f6.length 0 (wrap64 ((wrap64 (((ev l i).f1.f2.size : Int) + ((ev l i).f4.f2.size : Int))) + ((ev l i).f9.size : Int))) (by omega)
  obtain ⟨c, hc⟩ := great_loop l hd hl d (i + 1) (by omega)
  refine ⟨if b = true then true else c, Ev.step (f := fun k => (zap.f k (ev l i).f0 (ev l i).f1.f0 (ev l i).f1.f1 (ev l i).f1.f2 (ev l i).f2 (ev l i).f3 (ev l i).f4.f0 (ev l i).f4.f1 (ev l i).f4.f2 (ev l i).f5 (ev l i).f6 (ev l i).f7 (ev l i).f8 (ev l i).f9).bind fun t => (if t = true then some true else za0.l0 k l ((i + 1 : Nat) : Int))) (fun k => ?_) (Ev.bind (Ev.congr (fun k => rfl) hb) ?_)⟩
  ·simp only [za0.l0]
   rw [if_pos (by omega), if_pos (by omega), show wrap64 ((i : Int) + 1) = ((i + 1 : Nat) : Int) from by unfold wrap64; omega]
   rfl
  ·cases b with
   | true => simpa using Ev.now true
   | false => simpa using hc
theorem ev_great (l : List S47) (hd : DataOk l) : ∃ b, Ev (fun k => za0.f k l 60) b ∧ (b = false → l.length ≤ 60) := by
 by_cases h : (l.length : Int) > 60
 ·exact ⟨true, Ev.congr (f := fun _ => some true) (fun k => by unfold za0.f; rw [if_pos h]) (Ev.now _), fun e => by cases e⟩
 ·obtain ⟨b, hb⟩ := great_loop l hd (by omega) l.length 0 (by omega)
  exact ⟨b, Ev.congr (fun k => by unfold za0.f; rw [if_neg h]; rfl) hb, fun _ => by omega⟩
theorem good1 {x : S47} (h : Ok47 x) (k : keyOk x.f1 = true) : Good [x] := ⟨by simp, fun y hy => by rw [List.mem_singleton] at hy; subst hy; exact ⟨h, k⟩⟩
theorem sm97 : (⟨#[97]⟩ : ByteArray).size ≤ 9223372036854775807 := by decide
theorem sml_nil : SmL [] := fun x hx => by cases hx
theorem ok_wkA : Ok47 wkA := ⟨sm97, sm97, sml_nil, sml_nil, by decide, by decide, by decide⟩
theorem ok_wkB : Ok47 wkB := ⟨sm97, show (⟨#[]⟩ : ByteArray).size ≤ 9223372036854775807 by decide, sml_nil, sml_nil, by decide, by decide, by decide⟩
theorem chkA : chkS [wkA] 1 0 = (0, 0) := by kernel_rfl
theorem chkB : chkS [wkB] 1 0 = (4, 1) := by kernel_rfl
theorem opsA : opsF [wkA] 1 0 = [wkOp] := by kernel_rfl
theorem ev_wakes : Ev (fun k => zbm.f k) true := by
 have ka : keyOk wkA.f1 = true := by kernel_rfl
 have kb : keyOk wkB.f1 = true := by kernel_rfl
 obtain ⟨K1, h1⟩ := ev_opers [wkA] (good1 ok_wkA ka)
 obtain ⟨K2, h2⟩ := ev_check [wkB] (good1 ok_wkB kb)
 refine ⟨K1 + K2, fun k hk => ?_⟩
 have e1 := h1 k (by omega)
 have e2 := h2 k (by omega)
 unfold zbm.f
 refine if_pos ⟨e1.trans ?_, e2.trans ?_⟩
 ·unfold opsS
  rw [show [wkA].length = 1 from rfl, chkA, opsA]
  rfl
 ·rw [show [wkB].length = 1 from rfl, chkB]
end Go.Proofs.YtikmmigfdchcpaaDoor.PP
