/-
  Proved: a part of the proof of the claim's statement (text L8 of it).
  Conditions: none of ours.
-/
import Derived.Test.YtikmmigfdchcpaaDoorPdQ0
import Derived.Test.YtikmmigfdchcpaaDoorPdL6
import Derived.Test.YtikmmigfdchcpaaDoorPdQ59
import Derived.Test.YtikmmigfdchcpaaDoorPdQ60
namespace Go.Proofs.YtikmmigfdchcpaaDoor.PP
open Go.RowKit Go.Proofs.YtikmmigfdchcpaaDoorW.PrintWords Go.Proofs.YtikmmigfdchcpaaDoorW.PrintLast Go.Proofs.YtikmmigfdchcpaaDoorW.PrintMore
set_option linter.unusedVariables false
set_option linter.unusedSimpArgs false
def Kp (t base : Nat) (W0 W : World) : Prop :=
 Below base W0 W ∧ ∀ (g : Nat) (cs : Array Value) (q : Nat), W0.heap[g]? = some (.cells cs q (0, 0)) → ∃ cs', W.heap[g]? = some (.cells cs' q (0, 0)) ∧ cs'.size = cs.size ∧ (q ≠ t → cs' = cs)
theorem Kp.refl (t base : Nat) (W : World) : Kp t base W W := ⟨Below.refl _ _, fun _ cs _ h => ⟨cs, h, rfl, fun _ => rfl⟩⟩
theorem Kp.set {t base : Nat} {W0 W : World} {g : Nat} {cs : Array Value} (h : Kp t base W0 W) (hg : W0.heap[g]? = some (.cells cs t (0, 0))) (hb : base ≤ g) (j : Nat) (u : Value) : Kp t base W0 (W.setCell ⟨g, j, none⟩ u) := by
 refine ⟨h.1.setCell (p := ⟨g, j, none⟩) hb u, fun g' cs' q h' => ?_⟩
 obtain ⟨c1, e1, e2, e3⟩ := h.2 g' cs' q h'
 by_cases e : g' = g
 ·subst e
  have hq : q = t := by
   rw [h'] at hg
   injection hg with hg
   injection hg
  subst hq
  exact ⟨c1.setIfInBounds j u, blk_set e1 j u, by simp [e2], fun hn => absurd rfl hn⟩
 ·exact ⟨c1, blk_far e1 (p := ⟨g, j, none⟩) e u, e2, e3⟩
theorem Kp.put {t base : Nat} {W0 W : World} {g : Nat} {cs : Array Value} (h : Kp t base W0 W) (hg : W0.heap[g]? = some (.cells cs t (0, 0))) (hb : base ≤ g) {ad : Addr} (had : ad = ⟨g, 0, none⟩) (m : Nat) (u : Value) : Kp t base W0 (W.setCell (ad.add m) u) := by
 subst had
 rw [add_plain]
 exact h.set hg hb m u
theorem Kp.cell {t base : Nat} {W0 W : World} {g : Nat} {cs : Array Value} {q : Nat} (h : Kp t base W0 W) (hg : W0.heap[g]? = some (.cells cs q (0, 0))) (hq : q ≠ t) {ad : Addr} (had : ad = ⟨g, 0, none⟩) (m j : Nat) {u : Value} (hu : cs[m + j]? = some u) : W.cell? ⟨(ad.add m).block, (ad.add m).off + j, none⟩ = some u := by
 subst had
 obtain ⟨c1, e1, _, e3⟩ := h.2 g cs q hg
 rw [e3 hq] at e1
 rw [add_plain]
 exact (zae e1 (m + j)).trans hu
theorem Kp.can {t base : Nat} {W0 W : World} {g : Nat} {cs : Array Value} (h : Kp t base W0 W) (hg : W0.heap[g]? = some (.cells cs t (0, 0))) {ad : Addr} (had : ad = ⟨g, 0, none⟩) (m : Nat) (hm : m < cs.size) : (∃ u, W.cell? (ad.add m) = some u) ∧ W.frozen? (ad.add m) = false := by
 subst had
 obtain ⟨c1, e1, e2, _⟩ := h.2 g cs t hg
 rw [add_plain]
 have hm' : m < c1.size := by omega
 exact ⟨⟨c1[m], (zae e1 m).trans (Array.getElem?_eq_getElem hm')⟩, zah e1 m⟩
def Sh (base : Nat) (W : World) (v : Value) (n : Nat) : Prop :=
 n ≤ 9223372036854775807 ∧ ∃ A c, v = .slice A n c ∧ (0 < n → ∃ ad g cs, A = some ad ∧ ad = ⟨g, 0, none⟩ ∧ base ≤ g ∧ W.heap[g]? = some (.cells cs 38 (0, 0)) ∧ n * 3 ≤ cs.size)
theorem sh_of_R {W : World} {base : Nat} {ok : Nat → Prop} {v : Value} {xs : List S38} (h : k38.R 38 W base ok v xs) : Sh base W v xs.length := by
 obtain ⟨_, inner, ho, _⟩ := h
 rcases ho.2 with ⟨rfl, h0⟩ | ⟨g, cap, cur, rfl, hg, hh, hn, hm, hs, _⟩
 ·rw [h0]
  exact ⟨by omega, none, 0, rfl, fun h => absurd h (by omega)⟩
 ·simp only [maxLen] at hm
  refine ⟨by omega, _, cap, rfl, fun _ => ⟨_, g, cur, rfl, rfl, hg, hh, ?_⟩⟩
  rw [hs]
  exact Nat.mul_le_mul_right 3 hn
theorem rows_of_S {W : World} {base : Nat} {v : Value} {O : List S41} {ok : Nat → Prop} (h : Kd.S k41 41 W base ok v O) :
  O = [] ∨ ∃ g cap cur, v = .slice (some ⟨g, 0, none⟩) O.length cap ∧ W.heap[g]? = some (.cells cur 41 (0, 0)) ∧ ∀ i x, O[i]? = some x → ∃ v8 v9, cur[i * 12 + 8]? = some v8 ∧ cur[i * 12 + 9]? = some v9 ∧ Sh base W v8 x.f4.length ∧ Sh base W v9 x.f5.length := by
 obtain ⟨_, inner, ho, hr⟩ := Kd.S_R h
 rcases ho.2 with ⟨rfl, h0⟩ | ⟨g, cap, cur, rfl, hg, hh, hn, _, hs, ht⟩
 ·left
  exact List.length_eq_zero_iff.1 h0
 ·right
  refine ⟨g, cap, cur, rfl, hh, fun i x hi => ?_⟩
  obtain ⟨v8, v9, he, h8, h9⟩ := k41_openM (hr.2 i x hi)
  replace he : (inner.drop (i * 12)).take 12 = _ := he
  have cell : ∀ j u, ((inner.drop (i * 12)).take 12)[j]? = some u → cur[i * 12 + j]? = some u := by
   intro j u hu
   rw [List.getElem?_take] at hu
   split at hu
   ·rw [List.getElem?_drop, ← ht, List.getElem?_take] at hu
    split at hu
    ·rw [← Array.getElem?_toList]; exact hu
    ·cases hu
   ·cases hu
  exact ⟨v8, v9, cell 8 v8 (by rw [he]; rfl), cell 9 v9 (by rw [he]; rfl), sh_of_R h8, sh_of_R h9⟩
theorem below_less {B C : Nat} {w w1 w2 : World} (h : Below B w w1) (k : Below C w1 w2) (hBC : B ≤ C) : Below B w w2 :=
 h.trans ⟨k.os, k.tape, k.output, k.size, fun i hi => k.block i (Nat.lt_of_lt_of_le hi hBC)⟩
theorem copy_one (x : S47) (h : Ok47 x) : zbq.f x.f0 x.f1.f0 x.f1.f1 x.f1.f2 x.f2 x.f3 x.f4.f0 x.f4.f1 x.f4.f2 x.f5 x.f6 x.f7 x.f8 x.f9 = some (x.f0, x.f1.f0, x.f1.f1, x.f1.f2, x.f2, x.f3, x.f4.f0, x.f4.f1, x.f4.f2, x.f5, x.f6, x.f7, x.f8, x.f9) := by
 obtain ⟨_, _, _, _, h6, h7, _⟩ := h
 unfold zbq.f
 simp only [Option.bind_some, List.length_nil, Nat.zero_add, List.nil_append]
 rw [if_pos (by omega), if_pos (by omega)]
theorem copy_loop {l : List S47} (hg : Good l) : ∀ (d i : Nat) (out : List S47), i + d = l.length → out.length = i → Ev (fun k => za7.l0 k l out (i : Int)) (out ++ l.drop i)
 | 0, i, out, h, ho => by
  rw [List.drop_eq_nil_of_le (by omega), List.append_nil]
  exact Ev.step (f := fun _ => some out) (fun k => by simp only [za7.l0]; rw [if_neg (by omega)]) (Ev.now _)
 | d + 1, i, out, h, ho => by
  have hl : i < l.length := by omega
  have hx : l.drop i = zar l (i : Int) :: l.drop (i + 1) := by
   rw [List.drop_eq_getElem_cons hl]
   simp only [zar, Int.toNat_natCast, List.getD_eq_getElem?_getD, List.getElem?_eq_getElem hl, Option.getD_some]
  have ih := copy_loop hg d (i + 1) (out ++ [zar l (i : Int)]) (by omega) (by simp [ho])
  rw [List.append_assoc, List.singleton_append, ← hx] at ih
  refine Ev.step (fun k => ?_) ih
  have hok := (hg.2 _ (ev_mem hl)).1
  have hw : wrap64 ((i : Int) + 1) = ((i + 1 : Nat) : Int) := by have := hg.1; unfold wrap64; omega
  have hc := copy_one _ hok
  unfold ev at hc
  simp only [za7.l0]
  rw [if_pos (by omega), if_pos (by omega), hc, Option.bind_some, if_pos (by have := hg.1; omega), hw]
theorem ev_copy {l : List S47} (hg : Good l) : Ev (fun k => za7.f k l) l := by
 have h := copy_loop hg l.length 0 [] (by omega) rfl
 rw [List.nil_append, List.drop_zero] at h
 exact Ev.congr (fun k => rfl) h
theorem ev_same10 (x : S47) (h : Ok47 x) : Ev (fun k => zbw.f k x.f0 x.f1.f0 x.f1.f1 x.f1.f2 x.f2 x.f3 x.f4.f0 x.f4.f1 x.f4.f2 x.f5 x.f6 x.f7 x.f8 x.f9 x.f0 x.f1.f0 x.f1.f1 x.f1.f2 x.f2 x.f3 x.f4.f0 x.f4.f1 x.f4.f2 x.f5 x.f6 x.f7 x.f8 x.f9) true := by
 obtain ⟨_, _, _, _, h6, h7, _⟩ := h
 refine Ev.congr (f := fun k => (zau.f k x.f6 x.f6).bind fun t => (if t = true then ((zau.f k x.f7 x.f7).bind fun t2 => (if t2 = true then (some true) else some false)) else some false)) (fun k => ?_) (Ev.bind (ev_vals _ (by omega)) ?_)
 ·unfold zbw.f
  simp
 ·simp only [if_true]
  exact Ev.bind (ev_vals _ (by omega)) (by simpa using Ev.now true)
theorem opsS_end (l : List S47) : (opsS l).2 = chkS l l.length 0 := rfl
end Go.Proofs.YtikmmigfdchcpaaDoor.PP
