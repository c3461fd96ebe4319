/-
  Proved: a part of the proof of the claim's statement (text O of it).
  Conditions: none of ours.
-/
import Derived.Outline
import Derived.Test.YtikmmigfdchcpaaDoorPeQ0
import Derived.Test.YtikmmigfdchcpaaDoorPeK
import Derived.Test.YtikmmigfdchcpaaDoorPeQ28
import Derived.Test.YtikmmigfdchcpaaDoorPeQ29
namespace Go.Proofs.YtikmmigfdchcpaaDoor.PP
open Go.RowKit Go.Proofs.YtikmmigfdchcpaaDoorW.PrintWords Go.Proofs.YtikmmigfdchcpaaDoorW.PrintLast Go.Proofs.YtikmmigfdchcpaaDoorW.PrintMore
set_option linter.unusedVariables false
set_option linter.unusedSimpArgs false
theorem info41 : (Tryd.prog.info? 41).map (fun i => (i.zero, i.size, i.bytes)) = some (some (.agg #[(.int .i64 0), (.int .i64 0), (.string ⟨#[]⟩), (.int .i64 0), (.int .i64 0), (.int .i64 0), (.string ⟨#[]⟩), (.int .i64 0), (.slice none 0 0), (.slice none 0 0), (.int .i64 0), (.int .i64 0)]), 12, 144) := by kernel_rfl
theorem put14' {w : World} {g : Nat} {t : TypeId} {a0 a1 a2 a3 a4 a5 a6 a7 a8 a9 a10 a11 a12 a13 u0 u1 u2 u3 u4 u5 u6 u7 u8 u9 u10 u11 u12 u13 : Value} (h : w.heap[g]? = some (.cells #[a0, a1, a2, a3, a4, a5, a6, a7, a8, a9, a10, a11, a12, a13] t (0, 0))) : ((((((((((((((w.setCell ⟨g, 0, none⟩ u0).setCell ⟨g, 1, none⟩ u1).setCell ⟨g, 2, none⟩ u2).setCell ⟨g, 3, none⟩ u3).setCell ⟨g, 4, none⟩ u4).setCell ⟨g, 5, none⟩ u5).setCell ⟨g, 6, none⟩ u6).setCell ⟨g, 7, none⟩ u7).setCell ⟨g, 8, none⟩ u8).setCell ⟨g, 9, none⟩ u9).setCell ⟨g, 10, none⟩ u10).setCell ⟨g, 11, none⟩ u11).setCell ⟨g, 12, none⟩ u12).setCell ⟨g, 13, none⟩ u13).heap[g]? = some (.cells #[u0, u1, u2, u3, u4, u5, u6, u7, u8, u9, u10, u11, u12, u13] t (0, 0)) := by
  refine zaz (cs := #[u0, u1, u2, u3, u4, u5, u6, u7, u8, u9, u10, u11, u12, a13]) ?_ 13 _ rfl
  refine zaz (cs := #[u0, u1, u2, u3, u4, u5, u6, u7, u8, u9, u10, u11, a12, a13]) ?_ 12 _ rfl
  refine zaz (cs := #[u0, u1, u2, u3, u4, u5, u6, u7, u8, u9, u10, a11, a12, a13]) ?_ 11 _ rfl
  refine zaz (cs := #[u0, u1, u2, u3, u4, u5, u6, u7, u8, u9, a10, a11, a12, a13]) ?_ 10 _ rfl
  refine zaz (cs := #[u0, u1, u2, u3, u4, u5, u6, u7, u8, a9, a10, a11, a12, a13]) ?_ 9 _ rfl
  refine zaz (cs := #[u0, u1, u2, u3, u4, u5, u6, u7, a8, a9, a10, a11, a12, a13]) ?_ 8 _ rfl
  refine zaz (cs := #[u0, u1, u2, u3, u4, u5, u6, a7, a8, a9, a10, a11, a12, a13]) ?_ 7 _ rfl
  refine zaz (cs := #[u0, u1, u2, u3, u4, u5, a6, a7, a8, a9, a10, a11, a12, a13]) ?_ 6 _ rfl
  refine zaz (cs := #[u0, u1, u2, u3, u4, a5, a6, a7, a8, a9, a10, a11, a12, a13]) ?_ 5 _ rfl
  refine zaz (cs := #[u0, u1, u2, u3, a4, a5, a6, a7, a8, a9, a10, a11, a12, a13]) ?_ 4 _ rfl
  refine zaz (cs := #[u0, u1, u2, a3, a4, a5, a6, a7, a8, a9, a10, a11, a12, a13]) ?_ 3 _ rfl
  refine zaz (cs := #[u0, u1, a2, a3, a4, a5, a6, a7, a8, a9, a10, a11, a12, a13]) ?_ 2 _ rfl
  refine zaz (cs := #[u0, a1, a2, a3, a4, a5, a6, a7, a8, a9, a10, a11, a12, a13]) ?_ 1 _ rfl
  refine zaz (cs := #[a0, a1, a2, a3, a4, a5, a6, a7, a8, a9, a10, a11, a12, a13]) ?_ 0 _ rfl
  exact h
theorem belown14 {w0 w : World} {B g : Nat} {u0 u1 u2 u3 u4 u5 u6 u7 u8 u9 u10 u11 u12 u13 : Value} (h : Below B w0 w) (hg : B ≤ g) : Below B w0 ((((((((((((((w.setCell ⟨g, 0, none⟩ u0).setCell ⟨g, 1, none⟩ u1).setCell ⟨g, 2, none⟩ u2).setCell ⟨g, 3, none⟩ u3).setCell ⟨g, 4, none⟩ u4).setCell ⟨g, 5, none⟩ u5).setCell ⟨g, 6, none⟩ u6).setCell ⟨g, 7, none⟩ u7).setCell ⟨g, 8, none⟩ u8).setCell ⟨g, 9, none⟩ u9).setCell ⟨g, 10, none⟩ u10).setCell ⟨g, 11, none⟩ u11).setCell ⟨g, 12, none⟩ u12).setCell ⟨g, 13, none⟩ u13) := by
  exact Below.setCell (p := ⟨g, 13, none⟩) (Below.setCell (p := ⟨g, 12, none⟩) (Below.setCell (p := ⟨g, 11, none⟩) (Below.setCell (p := ⟨g, 10, none⟩) (Below.setCell (p := ⟨g, 9, none⟩) (Below.setCell (p := ⟨g, 8, none⟩) (Below.setCell (p := ⟨g, 7, none⟩) (Below.setCell (p := ⟨g, 6, none⟩) (Below.setCell (p := ⟨g, 5, none⟩) (Below.setCell (p := ⟨g, 4, none⟩) (Below.setCell (p := ⟨g, 3, none⟩) (Below.setCell (p := ⟨g, 2, none⟩) (Below.setCell (p := ⟨g, 1, none⟩) (Below.setCell (p := ⟨g, 0, none⟩) (h) hg _) hg _) hg _) hg _) hg _) hg _) hg _) hg _) hg _) hg _) hg _) hg _) hg _) hg _
theorem farS14 {α : Type} {d : Kd α} {e base : Nat} {ok : Nat → Prop} {w : World} {g : Nat} {v : Value} {xs : List α} {u0 u1 u2 u3 u4 u5 u6 u7 u8 u9 u10 u11 u12 u13 : Value} (h : Kd.S d e w base ok v xs) (hok : ∀ k, ok k → k ≠ g) : Kd.S d e ((((((((((((((w.setCell ⟨g, 0, none⟩ u0).setCell ⟨g, 1, none⟩ u1).setCell ⟨g, 2, none⟩ u2).setCell ⟨g, 3, none⟩ u3).setCell ⟨g, 4, none⟩ u4).setCell ⟨g, 5, none⟩ u5).setCell ⟨g, 6, none⟩ u6).setCell ⟨g, 7, none⟩ u7).setCell ⟨g, 8, none⟩ u8).setCell ⟨g, 9, none⟩ u9).setCell ⟨g, 10, none⟩ u10).setCell ⟨g, 11, none⟩ u11).setCell ⟨g, 12, none⟩ u12).setCell ⟨g, 13, none⟩ u13) base ok v xs := by
  exact Kd.S_far (p := ⟨g, 13, none⟩) (Kd.S_far (p := ⟨g, 12, none⟩) (Kd.S_far (p := ⟨g, 11, none⟩) (Kd.S_far (p := ⟨g, 10, none⟩) (Kd.S_far (p := ⟨g, 9, none⟩) (Kd.S_far (p := ⟨g, 8, none⟩) (Kd.S_far (p := ⟨g, 7, none⟩) (Kd.S_far (p := ⟨g, 6, none⟩) (Kd.S_far (p := ⟨g, 5, none⟩) (Kd.S_far (p := ⟨g, 4, none⟩) (Kd.S_far (p := ⟨g, 3, none⟩) (Kd.S_far (p := ⟨g, 2, none⟩) (Kd.S_far (p := ⟨g, 1, none⟩) (Kd.S_far (p := ⟨g, 0, none⟩) (h) hok _) hok _) hok _) hok _) hok _) hok _) hok _) hok _) hok _) hok _) hok _) hok _) hok _) hok _
theorem put12' {w : World} {g : Nat} {t : TypeId} {a0 a1 a2 a3 a4 a5 a6 a7 a8 a9 a10 a11 u0 u1 u2 u3 u4 u5 u6 u7 u8 u9 u10 u11 : Value} (h : w.heap[g]? = some (.cells #[a0, a1, a2, a3, a4, a5, a6, a7, a8, a9, a10, a11] t (0, 0))) : ((((((((((((w.setCell ⟨g, 0, none⟩ u0).setCell ⟨g, 1, none⟩ u1).setCell ⟨g, 2, none⟩ u2).setCell ⟨g, 3, none⟩ u3).setCell ⟨g, 4, none⟩ u4).setCell ⟨g, 5, none⟩ u5).setCell ⟨g, 6, none⟩ u6).setCell ⟨g, 7, none⟩ u7).setCell ⟨g, 8, none⟩ u8).setCell ⟨g, 9, none⟩ u9).setCell ⟨g, 10, none⟩ u10).setCell ⟨g, 11, none⟩ u11).heap[g]? = some (.cells #[u0, u1, u2, u3, u4, u5, u6, u7, u8, u9, u10, u11] t (0, 0)) := by
  refine zaz (cs := #[u0, u1, u2, u3, u4, u5, u6, u7, u8, u9, u10, a11]) ?_ 11 _ rfl
  refine zaz (cs := #[u0, u1, u2, u3, u4, u5, u6, u7, u8, u9, a10, a11]) ?_ 10 _ rfl
  refine zaz (cs := #[u0, u1, u2, u3, u4, u5, u6, u7, u8, a9, a10, a11]) ?_ 9 _ rfl
  refine zaz (cs := #[u0, u1, u2, u3, u4, u5, u6, u7, a8, a9, a10, a11]) ?_ 8 _ rfl
  refine zaz (cs := #[u0, u1, u2, u3, u4, u5, u6, a7, a8, a9, a10, a11]) ?_ 7 _ rfl
  refine zaz (cs := #[u0, u1, u2, u3, u4, u5, a6, a7, a8, a9, a10, a11]) ?_ 6 _ rfl
  refine zaz (cs := #[u0, u1, u2, u3, u4, a5, a6, a7, a8, a9, a10, a11]) ?_ 5 _ rfl
  refine zaz (cs := #[u0, u1, u2, u3, a4, a5, a6, a7, a8, a9, a10, a11]) ?_ 4 _ rfl
  refine zaz (cs := #[u0, u1, u2, a3, a4, a5, a6, a7, a8, a9, a10, a11]) ?_ 3 _ rfl
  refine zaz (cs := #[u0, u1, a2, a3, a4, a5, a6, a7, a8, a9, a10, a11]) ?_ 2 _ rfl
  refine zaz (cs := #[u0, a1, a2, a3, a4, a5, a6, a7, a8, a9, a10, a11]) ?_ 1 _ rfl
  refine zaz (cs := #[a0, a1, a2, a3, a4, a5, a6, a7, a8, a9, a10, a11]) ?_ 0 _ rfl
  exact h
theorem belown12 {w0 w : World} {B g : Nat} {u0 u1 u2 u3 u4 u5 u6 u7 u8 u9 u10 u11 : Value} (h : Below B w0 w) (hg : B ≤ g) : Below B w0 ((((((((((((w.setCell ⟨g, 0, none⟩ u0).setCell ⟨g, 1, none⟩ u1).setCell ⟨g, 2, none⟩ u2).setCell ⟨g, 3, none⟩ u3).setCell ⟨g, 4, none⟩ u4).setCell ⟨g, 5, none⟩ u5).setCell ⟨g, 6, none⟩ u6).setCell ⟨g, 7, none⟩ u7).setCell ⟨g, 8, none⟩ u8).setCell ⟨g, 9, none⟩ u9).setCell ⟨g, 10, none⟩ u10).setCell ⟨g, 11, none⟩ u11) := by
  exact Below.setCell (p := ⟨g, 11, none⟩) (Below.setCell (p := ⟨g, 10, none⟩) (Below.setCell (p := ⟨g, 9, none⟩) (Below.setCell (p := ⟨g, 8, none⟩) (Below.setCell (p := ⟨g, 7, none⟩) (Below.setCell (p := ⟨g, 6, none⟩) (Below.setCell (p := ⟨g, 5, none⟩) (Below.setCell (p := ⟨g, 4, none⟩) (Below.setCell (p := ⟨g, 3, none⟩) (Below.setCell (p := ⟨g, 2, none⟩) (Below.setCell (p := ⟨g, 1, none⟩) (Below.setCell (p := ⟨g, 0, none⟩) (h) hg _) hg _) hg _) hg _) hg _) hg _) hg _) hg _) hg _) hg _) hg _) hg _
theorem farS12 {α : Type} {d : Kd α} {e base : Nat} {ok : Nat → Prop} {w : World} {g : Nat} {v : Value} {xs : List α} {u0 u1 u2 u3 u4 u5 u6 u7 u8 u9 u10 u11 : Value} (h : Kd.S d e w base ok v xs) (hok : ∀ k, ok k → k ≠ g) : Kd.S d e ((((((((((((w.setCell ⟨g, 0, none⟩ u0).setCell ⟨g, 1, none⟩ u1).setCell ⟨g, 2, none⟩ u2).setCell ⟨g, 3, none⟩ u3).setCell ⟨g, 4, none⟩ u4).setCell ⟨g, 5, none⟩ u5).setCell ⟨g, 6, none⟩ u6).setCell ⟨g, 7, none⟩ u7).setCell ⟨g, 8, none⟩ u8).setCell ⟨g, 9, none⟩ u9).setCell ⟨g, 10, none⟩ u10).setCell ⟨g, 11, none⟩ u11) base ok v xs := by
  exact Kd.S_far (p := ⟨g, 11, none⟩) (Kd.S_far (p := ⟨g, 10, none⟩) (Kd.S_far (p := ⟨g, 9, none⟩) (Kd.S_far (p := ⟨g, 8, none⟩) (Kd.S_far (p := ⟨g, 7, none⟩) (Kd.S_far (p := ⟨g, 6, none⟩) (Kd.S_far (p := ⟨g, 5, none⟩) (Kd.S_far (p := ⟨g, 4, none⟩) (Kd.S_far (p := ⟨g, 3, none⟩) (Kd.S_far (p := ⟨g, 2, none⟩) (Kd.S_far (p := ⟨g, 1, none⟩) (Kd.S_far (p := ⟨g, 0, none⟩) (h) hok _) hok _) hok _) hok _) hok _) hok _) hok _) hok _) hok _) hok _) hok _) hok _
theorem farR12 {α : Type} {d : Kd α} {e base : Nat} {ok : Nat → Prop} {w : World} {g : Nat} {v : Value} {xs : List α} {u0 u1 u2 u3 u4 u5 u6 u7 u8 u9 u10 u11 : Value} (h : d.R e w base ok v xs) (hok : ∀ k, ok k → k ≠ g) : d.R e ((((((((((((w.setCell ⟨g, 0, none⟩ u0).setCell ⟨g, 1, none⟩ u1).setCell ⟨g, 2, none⟩ u2).setCell ⟨g, 3, none⟩ u3).setCell ⟨g, 4, none⟩ u4).setCell ⟨g, 5, none⟩ u5).setCell ⟨g, 6, none⟩ u6).setCell ⟨g, 7, none⟩ u7).setCell ⟨g, 8, none⟩ u8).setCell ⟨g, 9, none⟩ u9).setCell ⟨g, 10, none⟩ u10).setCell ⟨g, 11, none⟩ u11) base ok v xs := by
  exact Kd.R_far (p := ⟨g, 11, none⟩) (Kd.R_far (p := ⟨g, 10, none⟩) (Kd.R_far (p := ⟨g, 9, none⟩) (Kd.R_far (p := ⟨g, 8, none⟩) (Kd.R_far (p := ⟨g, 7, none⟩) (Kd.R_far (p := ⟨g, 6, none⟩) (Kd.R_far (p := ⟨g, 5, none⟩) (Kd.R_far (p := ⟨g, 4, none⟩) (Kd.R_far (p := ⟨g, 3, none⟩) (Kd.R_far (p := ⟨g, 2, none⟩) (Kd.R_far (p := ⟨g, 1, none⟩) (Kd.R_far (p := ⟨g, 0, none⟩) (h) hok _) hok _) hok _) hok _) hok _) hok _) hok _) hok _) hok _) hok _) hok _) hok _
def opAt (l : List S47) (gone ends : List Int) (i : Int) : Option (List S41) :=
  if (zav l i).f2 = 1 then
    (if decide (i ∈ gone) = true then some []
     else if i < (ends.length : Int) then
       (if (zav l i).f6.length < 4398046511104 then
         (if 0 < rd ends i then
           (if rd ends i < (l.length : Int) then
             (if (zav l (rd ends i)).f7.length < 4398046511104 then some [⟨(zav l i).f1, (zav l i).f3, (zav l i).f4, (zav l i).f5, (zav l i).f6, (zav l (rd ends i)).f7, i, rd ends i⟩] else none)
            else none)
          else some [⟨(zav l i).f1, (zav l i).f3, (zav l i).f4, (zav l i).f5, (zav l i).f6, [], i, -1⟩])
        else none)
     else none)
  else some []
def opL (l : List S47) (gone ends : List Int) : Nat → Int → List S41 → Option (List S41)
  | 0, _, _ => none
  | n + 1, i, out => if i < (l.length : Int) then (opAt l gone ends i).bind fun o => opL l gone ends n (i + 1) (out ++ o) else some out
noncomputable def zby.f (k : Nat) (l : List S47) : Option (List S41 × Int × Int) := if l.length ≤ 1000 then (allF k l).bind fun r => (if r.1 = 0 then (opL l r.2.2.gone r.2.2.ends (l.length + 1) 0 []).bind fun out => some (out, r.1, r.2.1) else some ([], r.1, r.2.1)) else none
theorem index_miss (gone : List Int) (x : Int) (hl : gone.length ≤ 9223372036854775807) (d : Nat) : ∀ (k : Nat) (j : Int), 0 ≤ j → j ≤ gone.length → (gone.length : Int) - j = d → d < k →
    ∃ r, za5.l0 k gone x (gone.length : Int) j = some r ∧ (0 ≤ r ↔ x ∈ gone.drop j.toNat) := by
  induction d with
  | zero =>
    intro k j h0 h1 hd hk
    obtain ⟨k, rfl⟩ : ∃ m, k = m + 1 := ⟨k - 1, by omega⟩
    refine ⟨-1, ?_, ?_⟩
    · simp only [za5.l0]
      rw [if_neg (by omega)]
    · rw [List.drop_eq_nil_of_le (by omega)]
      simp
  | succ d ih =>
    intro k j h0 h1 hd hk
    obtain ⟨k, rfl⟩ : ∃ m, k = m + 1 := ⟨k - 1, by omega⟩
    have hlt : j.toNat < gone.length := by omega
    have hrd : rd gone j = gone[j.toNat] := by simp [rd, List.getD_eq_getElem?_getD, List.getElem?_eq_getElem hlt]
    simp only [za5.l0]
    rw [if_pos (by omega), if_pos h0, if_pos (by omega), List.drop_eq_getElem_cons hlt]
    by_cases e : x = rd gone j
    · rw [if_pos e]
      refine ⟨j, rfl, ?_⟩
      rw [← hrd, ← e]
      simp [h0]
    · rw [if_neg e, show wrap64 (j + 1) = j + 1 from by unfold wrap64; omega]
      obtain ⟨r, h2, h3⟩ := ih k (j + 1) (by omega) (by omega) (by omega) (by omega)
      refine ⟨r, h2, ?_⟩
      rw [h3, show (j + 1).toNat = j.toNat + 1 by omega, List.mem_cons, ← hrd]
      simp [e]
theorem contains_eq (gone : List Int) (x : Int) (hl : gone.length ≤ 9223372036854775807) : zbh.f (gone.length + 1) gone x = some (decide (x ∈ gone)) := by
  unfold zbh.f za5.f
  obtain ⟨r, h2, h3⟩ := index_miss gone x hl gone.length (gone.length + 1) 0 (by omega) (by omega) (by omega) (by omega)
  rw [h2]
  simp only [Option.bind_some, Option.some.injEq]
  rw [decide_eq_decide]
  simpa using h3
theorem T41 : ∀ q, q ∈ 41 :: k41.E → q ≠ 27 := by
  intro q hq
  have : q = 41 ∨ q = 38 := by simpa [k41, k38, Kd.iso, Kd.pair, Kd.slice, Kd.int, Kd.string, Kd.scalar] using hq
  omega
theorem T38 : ∀ q, q ∈ 38 :: k38.E → q ≠ 41 := by
  intro q hq
  have : q = 38 := by simpa [k38, Kd.iso, Kd.pair, Kd.int, Kd.string, Kd.scalar] using hq
  omega
theorem S_own_ok {α : Type} {d : Kd α} {e base : Nat} {ok : Nat → Prop} {w : World} {v : Value} {xs : List α} (h : Kd.S d e w base ok v xs) : ∀ k, v.ownBlock = some k → ok k := by
  obtain ⟨f, h⟩ := h
  exact h.1
set_option maxHeartbeats 16000000 in
set_option maxRecDepth 100000 in
theorem zby.calls (k : Nat) (A0 : Option Addr) (c0 : Nat) (l : List S47) (r1 : List S41) (r2 r3 : Int) (w : World) (hG : Glob w) (hr0 : Kd.C k47 w A0 l.length l) (hc0 : l.length ≤ c0) (h : zby.f k l = some (r1, r2, r3)) :
    Calls Tryd.prog 12 #[.slice A0 l.length c0] w fun e w' => ∃ v0_ : Value, e = .returned (.tuple #[v0_, .agg #[.int .i64 r2, .int .i64 r3]]) ∧ Kd.S k41 41 w' w.heap.size (fun _ => True) v0_ r1 ∧ Below w.heap.size w w' := by
  have hu27 := Tryd.underlying27
  have hu41 := Tryd.underlying41
  have hu47 := Tryd.underlying47
  have hu58 := Tryd.underlying58
  unfold zby.f at h
  by_cases hl : l.length ≤ 1000
  · rw [if_pos hl] at h
    obtain ⟨⟨e1, at1, s1⟩, A1, h⟩ := Option.bind_eq_some_iff.mp h
    replace h : (if e1 = 0 then (opL l s1.gone s1.ends (l.length + 1) 0 []).bind fun out => some (out, e1, at1) else some ([], e1, at1)) = some (r1, r2, r3) := h
    have HL := zab.mk hl
    have AR := zab.mk A1
    clear hl A1
    obtain ⟨W1, hW1⟩ : ∃ W1, W1 = w.alloc (.cells #[.int .i64 0, .int .i64 0] 27) := ⟨_, rfl⟩
    have HB1 := zab.mk (show Below w.heap.size w W1 by rw [hW1]; exact zac (Below.refl _ _) _)
    have BR1 := zab.mk (show W1.heap[w.heap.size]? = some (.cells #[.int .i64 0, .int .i64 0] 27 (0, 0)) by rw [hW1]; exact heap_alloc_new _ _)
    have HR0 := zab.mk (Kd.za9 hr0 HB1.out)
    have HG := zab.mk (za7 hG HB1.out)
    have HC0 := zab.mk hc0
    have HH := zab.mk h
    clear hr0 hG hc0 h
    go_enter Tryd.func12, Tryd.ntmps12
    go_wp2_with (fail)
    rw [← hW1]
    clear hW1
    refine (all.calls k A0 c0 l e1 at1 s1 W1 HG.out HR0.out HC0.out HL.out AR.out).mono ?_
    rintro e w2 ⟨g, rfl, hb2, hcl⟩
    have HB2 := zab.mk (za1 HB1.out HB1.out.size hb2)
    have HR2 := zab.mk (Kd.za9 HR0.out hb2)
    have BR2 := zab.mk (zaw BR1.out hb2)
    have HCL := zab.mk hcl
    clear hb2 hcl HR0 HG BR1 HB1
    go_upto_region 2 with (((with_reducible refine za2 (N := 5) rfl ?_); refine zay ?hg (N := 5) ?hd (cs := #[.int .i64 0, .int .i64 0]) (t := 27) ?hr ?_; (case hd => rfl); (case hg => rfl); (case hr => first | (go_simp; done) | (go_simp; rfl)); intro gb hg w3 hbox hb; have HB3 := zab.mk (za1 HB2.out HB2.out.size hb); have HBS := zab.mk hb; have BX := zab.mk hbox; have BR3 := zab.mk (zaw BR2.out hb); have GE := zab.mk (show w.heap.size < gb by rw [hg]; exact zbp BR2.out); have GE2 := zab.mk (show w2.heap.size ≤ gb by rw [hg]; exact Nat.le_refl _); clear hb hbox hg; have x0 : w3.cell? ⟨gb, 0, none⟩ = some (.int .i64 0) := (zae BX.out 0).trans rfl; have x1 : w3.cell? ⟨gb, 1, none⟩ = some (.int .i64 0) := (zae BX.out 1).trans rfl; have f0 := zah BX.out 0; have f1 := zah BX.out 1))
    refine zb0 (G := fun W => Code.wp _ _ _ _ W) _ (fun W4 hW4 => ?_)
    have BX4 := zab.mk (show W4.heap[gb]? = some (.cells #[.int .i64 e1, .int .i64 at1] 27 (0, 0)) by rw [hW4]; exact zaz (cs := #[.int .i64 e1, .int .i64 0]) (zaz (cs := #[.int .i64 0, .int .i64 0]) (cs' := #[.int .i64 e1, .int .i64 0]) BX.out 0 (.int .i64 e1) rfl) 1 (.int .i64 at1) rfl)
    have hne : w.heap.size ≠ gb := by have := GE.out; omega
    have BR4 := zab.mk (show W4.heap[w.heap.size]? = some (.cells #[.int .i64 0, .int .i64 0] 27 (0, 0)) by rw [hW4]; exact blk_off (blk_off BR3.out hne 0 _) hne 1 _)
    have HB24 := zab.mk (show Below w2.heap.size w2 W4 by rw [hW4]; exact (HBS.out.setCell (p := ⟨gb, 0, none⟩) GE2.out _).setCell (p := ⟨gb, 1, none⟩) GE2.out _)
    have HB4 := zab.mk (za1 HB2.out HB2.out.size HB24.out)
    have HR4 := zab.mk (Kd.za9 HR2.out HB24.out)
    clear hW4 hne x0 x1 f0 f1 BX BR3 HB3 BR2 HB2 HBS HR2
    have x0 : W4.cell? ⟨gb, 0, none⟩ = some (.int .i64 e1) := (zae BX4.out 0).trans rfl
    have x1 : W4.cell? ⟨gb, 1, none⟩ = some (.int .i64 at1) := (zae BX4.out 1).trans rfl
    by_cases ce : e1 = 0
    · subst ce
      have H : ((opL l s1.gone s1.ends (l.length + 1) 0 []).bind fun out => some (out, (0 : Int), at1)) = some (r1, r2, r3) := by have h9 := HH.out; rw [if_pos rfl] at h9; exact h9
      obtain ⟨out1, AO, H2⟩ := Option.bind_eq_some_iff.mp H
      simp only [Option.some.injEq, Prod.mk.injEq] at H2
      obtain ⟨rfl, rfl, rfl⟩ := H2
      have AO := zab.mk AO
      obtain ⟨bm, lm, n1, n2, vg, ve, hcl⟩ := HCL.out rfl
      have hcl4 := hcl.below HB24.out
      obtain ⟨Ag, cg, evg, hcg, hCg⟩ := Kd.R_reads hcl4.gone
      obtain ⟨Ae, ce, eve, hce, hCe⟩ := Kd.R_reads hcl4.ends
      have HCG := zab.mk hCg
      have HCE := zab.mk hCe
      have HLG := zab.mk hcg
      have BK := zab.mk (hcl4.blk)
      subst evg
      subst eve
      clear hcl hcl4 hCg hCe hcg hce H HH HCL
      have v3 : W4.cell? ⟨g, 3, none⟩ = some (.slice Ag s1.gone.length cg) := (zae BK.out 3).trans rfl
      have v4 : W4.cell? ⟨g, 4, none⟩ = some (.slice Ae s1.ends.length ce) := (zae BK.out 4).trans rfl
      have HV := zab.mk (And.intro v3 v4)
      clear v3 v4
      go_wp2
      go_loopg [6, 22] (l.length + 1) (fun kq v6 v22 w' => ∃ (i : Int) (out : List S41), v22 = .int .i64 i ∧ zab (0 ≤ i) ∧ zab (opL l s1.gone s1.ends kq i out = some out1) ∧ zab ((out.length : Int) ≤ i) ∧ zab (Kd.S k41 41 w' W4.heap.size (fun _ => True) v6 out) ∧ zab (Below W4.heap.size W4 w'))
      case atStart => exact ⟨0, [], rfl, ⟨Int.le_refl _⟩, AO, ⟨Int.le_refl _⟩, ⟨Kd.S_nil _ _ _ _ _⟩, ⟨Below.refl _ _⟩⟩
      case round =>
        clear AO x0 x1
        obtain ⟨i, out, rfl, HI0, HA, HLO, HO, HB⟩ := hrel
        cases gk with
        | zero => exact absurd HA.out (by simp [opL])
        | succ k1 =>
          have H := HA.out
          clear HA
          simp only [opL] at H
          by_cases c2 : i < (l.length : Int)
          · rw [if_pos c2] at H
            have c2b0 : decide (i < (l.length : Int)) = true := decide_eq_true c2
            have p0 := eq_true HI0.out
            have hi0 := HI0.out
            have q0 := eq_true c2
            have hi1000 : i < 1000 := by have := HL.out; omega
            have CI := zab.mk c2
            clear c2
            obtain ⟨ops, A3, H⟩ := Option.bind_eq_some_iff.mp H
            have HA := zab.mk H
            clear H
            obtain ⟨x, hx⟩ : ∃ x, x = zav l i := ⟨_, rfl⟩
            obtain ⟨ad, A10, c10, A11, c11, ea, hx0, hx1, hx2, hx3, hx4, hx5, hx6, hx7, hx8, hx9, hx10, hx11, hx12, hx13, hl10, hi10, hl11, hi11⟩ := at_T47 HR4.out i HI0.out CI.out
            cases ea
            unfold opAt at A3
            rw [← hx] at A3 hx0 hx1 hx2 hx3 hx4 hx5 hx6 hx7 hx8 hx9 hx10 hx11 hx12 hx13 hl10 hi10 hl11 hi11
            clear hx
            replace hx0 := zaf HB.out hx0
            replace hx1 := zaf HB.out hx1
            replace hx2 := zaf HB.out hx2
            replace hx3 := zaf HB.out hx3
            replace hx4 := zaf HB.out hx4
            replace hx5 := zaf HB.out hx5
            replace hx6 := zaf HB.out hx6
            replace hx7 := zaf HB.out hx7
            replace hx8 := zaf HB.out hx8
            replace hx9 := zaf HB.out hx9
            replace hx10 := zaf HB.out hx10
            replace hx11 := zaf HB.out hx11
            replace hx12 := zaf HB.out hx12
            replace hx13 := zaf HB.out hx13
            have HI10 := zab.mk hi10
            have HL10 := zab.mk hl10
            clear hi10 hl10 hi11 hl11
            obtain ⟨n0, hn0⟩ : ∃ n0, n0 = wr.heap.size := ⟨_, rfl⟩
            have NB := zab.mk (show W4.heap.size ≤ n0 by rw [hn0]; exact HB.out.size)
            have HN := zab.mk hn0
            have HOn := zab.mk (show Kd.S k41 41 wr W4.heap.size (fun k => k < n0) u6 out by rw [hn0]; exact Kd.S_mono (Kd.S_bound HO.out) (fun _ hk => hk.2.2.1))
            clear HO
            have HO := HOn
            clear HOn hn0
            have HA3 := zab.mk A3
            clear A3
            go_upto_region 8 with ((with_reducible refine za2 (N := 8) rfl ?_); refine zay ?hg (N := 8) ?hd (cs := #[.int .i64 0, .int .i64 0, .int .i64 0, .string (⟨#[]⟩ : ByteArray), .int .i64 0, .int .i64 0, .int .i64 0, .int .i64 0, .string (⟨#[]⟩ : ByteArray), .int .i64 0, .slice none 0 0, .slice none 0 0, .bool false, .string (⟨#[]⟩ : ByteArray)]) (t := 47) ?hr ?_; (case hd => rfl); (case hg => rfl); (case hr => first | (go_simp; done) | (go_simp; rfl)); intro gx hg w2 hbox hb; have HB2 := zab.mk (za1 HB.out HB.out.size hb); have HO2 := zab.mk (Kd.S_below HO.out hb); have BX2 := zab.mk hbox; have GX := zab.mk (show wr.heap.size ≤ gx from Nat.le_of_eq hg.symm); clear hbox hb hg HB HO; have hz0 : w2.cell? ⟨gx, 0, none⟩ = some (.int .i64 0) := (zae BX2.out 0).trans rfl; have hf0 := zah BX2.out 0; have hz1 : w2.cell? ⟨gx, 1, none⟩ = some (.int .i64 0) := (zae BX2.out 1).trans rfl; have hf1 := zah BX2.out 1; have hz2 : w2.cell? ⟨gx, 2, none⟩ = some (.int .i64 0) := (zae BX2.out 2).trans rfl; have hf2 := zah BX2.out 2; have hz3 : w2.cell? ⟨gx, 3, none⟩ = some (.string (⟨#[]⟩ : ByteArray)) := (zae BX2.out 3).trans rfl; have hf3 := zah BX2.out 3; have hz4 : w2.cell? ⟨gx, 4, none⟩ = some (.int .i64 0) := (zae BX2.out 4).trans rfl; have hf4 := zah BX2.out 4; have hz5 : w2.cell? ⟨gx, 5, none⟩ = some (.int .i64 0) := (zae BX2.out 5).trans rfl; have hf5 := zah BX2.out 5; have hz6 : w2.cell? ⟨gx, 6, none⟩ = some (.int .i64 0) := (zae BX2.out 6).trans rfl; have hf6 := zah BX2.out 6; have hz7 : w2.cell? ⟨gx, 7, none⟩ = some (.int .i64 0) := (zae BX2.out 7).trans rfl; have hf7 := zah BX2.out 7; have hz8 : w2.cell? ⟨gx, 8, none⟩ = some (.string (⟨#[]⟩ : ByteArray)) := (zae BX2.out 8).trans rfl; have hf8 := zah BX2.out 8; have hz9 : w2.cell? ⟨gx, 9, none⟩ = some (.int .i64 0) := (zae BX2.out 9).trans rfl; have hf9 := zah BX2.out 9; have hz10 : w2.cell? ⟨gx, 10, none⟩ = some (.slice none 0 0) := (zae BX2.out 10).trans rfl; have hf10 := zah BX2.out 10; have hz11 : w2.cell? ⟨gx, 11, none⟩ = some (.slice none 0 0) := (zae BX2.out 11).trans rfl; have hf11 := zah BX2.out 11; have hz12 : w2.cell? ⟨gx, 12, none⟩ = some (.bool false) := (zae BX2.out 12).trans rfl; have hf12 := zah BX2.out 12; have hz13 : w2.cell? ⟨gx, 13, none⟩ = some (.string (⟨#[]⟩ : ByteArray)) := (zae BX2.out 13).trans rfl; have hf13 := zah BX2.out 13)
            refine zb0 (G := fun W => Code.wp _ _ _ _ W) _ (fun W5 hW5 => ?_)
            have hnx : n0 ≤ gx := by have := GX.out; have := HN.out; omega
            have BX := zab.mk (show W5.heap[gx]? = some (.cells #[.int .i64 x.f0, .int .i64 x.f1.f0, .int .i64 x.f1.f1, .string x.f1.f2, .int .i64 x.f2, .int .i64 x.f3, .int .i64 x.f4.f0, .int .i64 x.f4.f1, .string x.f4.f2, .int .i64 x.f5, .slice A10 x.f6.length c10, .slice A11 x.f7.length c11, .bool x.f8, .string x.f9] 47 (0, 0)) by rw [hW5]; exact put14' BX2.out)
            have HB := zab.mk (show Below W4.heap.size W4 W5 by rw [hW5]; exact belown14 HB2.out (by have := NB.out; omega))
            have HO := zab.mk (show Kd.S k41 41 W5 W4.heap.size (fun k => k < n0) u6 out by rw [hW5]; exact farS14 HO2.out (fun k hk => by omega))
            have NX := zab.mk hnx
            have NZ := zab.mk (show n0 ≤ W5.heap.size by have := zbp BX.out; omega)
            clear hz0 hf0 hz1 hf1 hz2 hf2 hz3 hf3 hz4 hf4 hz5 hf5 hz6 hf6 hz7 hf7 hz8 hf8 hz9 hf9 hz10 hf10 hz11 hf11 hz12 hf12 hz13 hf13 hx0 hx1 hx2 hx3 hx4 hx5 hx6 hx7 hx8 hx9 hx10 hx11 hx12 hx13
            clear hW5 HB2 HO2 BX2 GX hnx
            have y4 : W5.cell? ⟨gx, 4, none⟩ = some (.int .i64 x.f2) := (zae BX.out 4).trans rfl
            have v3 := (HB.out.cell (World.block_lt_of_cell? W4 _ HV.out.1)).trans HV.out.1
            by_cases c3 : x.f2 = 1
            · have H3 := HA3.out
              rw [if_pos c3] at H3
              have q3 : (x.f2 == 1) = true := beq_iff_eq.mpr c3
              have q3' : (x.f2 != 1) = false := bne_eq_false_iff_eq.mpr c3
              clear c3 HA3
              obtain ⟨bg, hbg⟩ : ∃ b, b = decide (i ∈ s1.gone) := ⟨_, rfl⟩
              rw [← hbg] at H3
              have HCO := zab.mk (show zbh.f (s1.gone.length + 1) s1.gone i = some bg by rw [hbg]; exact contains_eq _ _ HCG.out.2.1)
              clear hbg
              cases bg with
              | true =>
                have H4 : some ([] : List S41) = some ops := by rw [if_pos rfl] at H3; exact H3
                obtain rfl := Option.some.inj H4
                clear H3 H4
                have HA2 : zab (opL l s1.gone s1.ends k1 (i + 1) out = some out1) := ⟨by have := HA.out; rwa [List.append_nil] at this⟩
                clear HA
                go_wp2_with ((with_reducible refine za6 (f := 22) rfl ?_); (try (refine gate_guard (by rfl) ?_; dsimp only)); refine zbo (some 36) rfl rfl Tryd.func22 (by kernel_rfl) rfl #[.slice Ag s1.gone.length cg, .int .i64 i] rfl (by (try simp only [List.map_toArray, List.map_cons, List.map_nil]); first | done | rfl) ?_; (with_reducible refine (zbh.calls _ _ _ s1.gone i true _ ?s1 ?s2 HCO.out).mono ?_); (case s1 => exact Kd.za9 HCG.out HB.out); (case s2 => exact HLG.out); rintro e w' ⟨rfl, ⟨nd, rfl⟩⟩; refine ⟨_, rfl, ?_⟩)
                go_roundg k1
                case measure => omega
                case rel => exact ⟨i + 1, out, rfl, ⟨by omega⟩, HA2, ⟨by have := HLO.out; omega⟩, ⟨Kd.S_mono (Kd.S_drewN HO.out nd) (fun _ _ => trivial)⟩, ⟨zaa HB.out nd⟩⟩
              | false =>
                have H4 := H3
                rw [if_neg (by decide)] at H4
                clear H3
                by_cases c5 : i < (s1.ends.length : Int)
                · rw [if_pos c5] at H4
                  by_cases c6 : x.f6.length < 4398046511104
                  · rw [if_pos c6] at H4
                    have HA3 := zab.mk H4
                    have C5 := zab.mk c5
                    have C6 := zab.mk c6
                    clear H4 c5 c6
                    go_upto_region 9 with ((with_reducible refine za6 (f := 22) rfl ?_); (try (refine gate_guard (by rfl) ?_; dsimp only)); refine zbo (some 36) rfl rfl Tryd.func22 (by kernel_rfl) rfl #[.slice Ag s1.gone.length cg, .int .i64 i] rfl (by (try simp only [List.map_toArray, List.map_cons, List.map_nil]); first | done | rfl) ?_; (with_reducible refine (zbh.calls _ _ _ s1.gone i false _ ?s1 ?s2 HCO.out).mono ?_); (case s1 => exact Kd.za9 HCG.out HB.out); (case s2 => exact HLG.out); rintro e w' ⟨rfl, ⟨nd, rfl⟩⟩; refine ⟨_, rfl, ?_⟩)
                    refine zb0 (G := fun W => Code.wp _ _ _ _ W) _ (fun W6 hW6 => ?_)
                    have BX6 := zab.mk (show W6.heap[gx]? = some (.cells #[.int .i64 x.f0, .int .i64 x.f1.f0, .int .i64 x.f1.f1, .string x.f1.f2, .int .i64 x.f2, .int .i64 x.f3, .int .i64 x.f4.f0, .int .i64 x.f4.f1, .string x.f4.f2, .int .i64 x.f5, .slice A10 x.f6.length c10, .slice A11 x.f7.length c11, .bool x.f8, .string x.f9] 47 (0, 0)) by rw [hW6]; exact zaj BX.out nd)
                    have HB6 := zab.mk (show Below W4.heap.size W4 W6 by rw [hW6]; exact zaa HB.out nd)
                    have HO6 := zab.mk (show Kd.S k41 41 W6 W4.heap.size (fun k => k < n0) u6 out by rw [hW6]; exact Kd.S_drewN HO.out nd)
                    have NZ6 := zab.mk (show n0 ≤ W6.heap.size by rw [hW6]; exact NZ.out)
                    clear hW6 y4 v3 BX HB HO NZ
                    have z1 : W6.cell? ⟨gx, 1, none⟩ = some (.int .i64 x.f1.f0) := (zae BX6.out 1).trans rfl
                    have z2 : W6.cell? ⟨gx, 2, none⟩ = some (.int .i64 x.f1.f1) := (zae BX6.out 2).trans rfl
                    have z3 : W6.cell? ⟨gx, 3, none⟩ = some (.string x.f1.f2) := (zae BX6.out 3).trans rfl
                    have z5 : W6.cell? ⟨gx, 5, none⟩ = some (.int .i64 x.f3) := (zae BX6.out 5).trans rfl
                    have z6 : W6.cell? ⟨gx, 6, none⟩ = some (.int .i64 x.f4.f0) := (zae BX6.out 6).trans rfl
                    have z7 : W6.cell? ⟨gx, 7, none⟩ = some (.int .i64 x.f4.f1) := (zae BX6.out 7).trans rfl
                    have z8 : W6.cell? ⟨gx, 8, none⟩ = some (.string x.f4.f2) := (zae BX6.out 8).trans rfl
                    have z9 : W6.cell? ⟨gx, 9, none⟩ = some (.int .i64 x.f5) := (zae BX6.out 9).trans rfl
                    have z10 : W6.cell? ⟨gx, 10, none⟩ = some (.slice A10 x.f6.length c10) := (zae BX6.out 10).trans rfl
                    refine start_ (n := 15) (ds := [14]) (S := fun w' => w'.cell? ⟨gx, 1, none⟩ = some (.int .i64 x.f1.f0) ∧ w'.cell? ⟨gx, 2, none⟩ = some (.int .i64 x.f1.f1) ∧ w'.cell? ⟨gx, 3, none⟩ = some (.string x.f1.f2) ∧ w'.cell? ⟨gx, 5, none⟩ = some (.int .i64 x.f3) ∧ w'.cell? ⟨gx, 6, none⟩ = some (.int .i64 x.f4.f0) ∧ w'.cell? ⟨gx, 7, none⟩ = some (.int .i64 x.f4.f1) ∧ w'.cell? ⟨gx, 8, none⟩ = some (.string x.f4.f2) ∧ w'.cell? ⟨gx, 9, none⟩ = some (.int .i64 x.f5) ∧ w'.cell? ⟨gx, 10, none⟩ = some (.slice A10 x.f6.length c10)) #[false, false, false, false, false, false, false, false, false, false, false, false, false, false, false] (by rfl) rfl rfl ⟨z1, z2, z3, z5, z6, z7, z8, z9, z10⟩ (fun hHeld => ?_)
                    have BX7 := zab.mk (zam BX6.out)
                    have HB7 := zab.mk (zad HB6.out)
                    have HO7 := zab.mk (Kd.S_drew HO6.out)
                    have NZ7 := zab.mk (show n0 ≤ W6.drew.heap.size from NZ6.out)
                    clear z1 z2 z3 z5 z6 z7 z8 z9 z10 BX6 HB6 HO6 NZ6
                    generalize W6.drew = W7 at BX7 HB7 HO7 NZ7 hHeld ⊢
                    refine pz_ 0 38 ?_ ?_ (bz 15 1) rfl rfl (by kernel_rfl) (fun _ _ _ h => h) (Or.inl ⟨by rfl, ?_⟩) ?_ ?_; rotate_left 2; (intro w'; go_simp; with_reducible rfl); (simp only [zps]; rfl)
                    refine pz_ 2 40 ?_ ?_ (bz 15 5) rfl rfl (by kernel_rfl) (fun _ _ _ h => h) (Or.inl ⟨by rfl, ?_⟩) ?_ ?_; rotate_left 2; (intro w'; go_simp; with_reducible rfl); (simp only [zps]; rfl)
                    refine pz_ 4 42 ?_ ?_ (bz 15 21) rfl rfl (by kernel_rfl) (fun _ _ _ h => h) (Or.inl ⟨by rfl, ?_⟩) ?_ ?_; rotate_left 2; (intro w'; go_simp; with_reducible rfl); (simp only [zps]; rfl)
                    refine pz_ 6 44 ?_ ?_ (bz 15 85) rfl rfl (by kernel_rfl) (fun _ _ _ h => h) (Or.inl ⟨by rfl, ?_⟩) ?_ ?_; rotate_left 2; (intro w'; go_simp; with_reducible rfl); (simp only [zps]; rfl)
                    refine pz_ 8 46 ?_ ?_ (bz 15 341) rfl rfl (by kernel_rfl) (fun _ _ _ h => h) (Or.inl ⟨by rfl, ?_⟩) ?_ ?_; rotate_left 2; (intro w'; go_simp; with_reducible rfl); (simp only [zps]; rfl)
                    refine pz_ 11 49 ?_ ?_ (bz 15 2389) rfl rfl (by kernel_rfl) (fun _ _ _ h => h) (Or.inl ⟨by rfl, ?_⟩) ?_ ?_; rotate_left 2; (intro w'; go_simp; with_reducible rfl); (simp only [zps]; rfl)
                    refine tz_ 1 39 ?_ ?_ (bz 15 2391) rfl rfl (by kernel_rfl) (fun _ _ _ h => h) (Or.inl ⟨by rfl, ?_⟩) hHeld ?_ ?_; rotate_left 2; (rintro w' ⟨s0, s1, s2, s3, s4, s5, s6, s7, s8⟩; go_simp; with_reducible rfl); (simp only [zps]; rfl)
                    refine tz_ 3 41 ?_ ?_ (bz 15 2399) rfl rfl (by kernel_rfl) (fun _ _ _ h => h) (Or.inl ⟨by rfl, ?_⟩) hHeld ?_ ?_; rotate_left 2; (rintro w' ⟨s0, s1, s2, s3, s4, s5, s6, s7, s8⟩; go_simp; with_reducible rfl); (simp only [zps]; rfl)
                    refine tz_ 5 43 ?_ ?_ (bz 15 2431) rfl rfl (by kernel_rfl) (fun _ _ _ h => h) (Or.inl ⟨by rfl, ?_⟩) hHeld ?_ ?_; rotate_left 2; (rintro w' ⟨s0, s1, s2, s3, s4, s5, s6, s7, s8⟩; go_simp; with_reducible rfl); (simp only [zps]; rfl)
                    refine tz_ 7 45 ?_ ?_ (bz 15 2559) rfl rfl (by kernel_rfl) (fun _ _ _ h => h) (Or.inl ⟨by rfl, ?_⟩) hHeld ?_ ?_; rotate_left 2; (rintro w' ⟨s0, s1, s2, s3, s4, s5, s6, s7, s8⟩; go_simp; with_reducible rfl); (simp only [zps]; rfl)
                    refine tz_ 9 47 ?_ ?_ (bz 15 3071) rfl rfl (by kernel_rfl) (fun _ _ _ h => h) (Or.inl ⟨by rfl, ?_⟩) hHeld ?_ ?_; rotate_left 2; (rintro w' ⟨s0, s1, s2, s3, s4, s5, s6, s7, s8⟩; go_simp; with_reducible rfl); (simp only [zps]; rfl)
                    refine join_ (σ := Option Addr × Nat × Nat) 1 #[true, true, true, true, true, true, true, true, true, true, true, true, true, true, false] (fun s => [(48, .slice s.1 x.f6.length s.2.1), (9, .pointer (some ⟨s.2.2, 0, none⟩)), (50, .agg #[.int .i64 x.f1.f0, .int .i64 x.f1.f1, .string x.f1.f2, .int .i64 x.f3, .int .i64 x.f4.f0, .int .i64 x.f4.f1, .string x.f4.f2, .int .i64 x.f5, .slice s.1 x.f6.length s.2.1, .slice none 0 0, .int .i64 i, .int .i64 (-1)])]) (fun s w' => Below W4.heap.size W4 w' ∧ w'.heap[gx]? = some (.cells #[.int .i64 x.f0, .int .i64 x.f1.f0, .int .i64 x.f1.f1, .string x.f1.f2, .int .i64 x.f2, .int .i64 x.f3, .int .i64 x.f4.f0, .int .i64 x.f4.f1, .string x.f4.f2, .int .i64 x.f5, .slice A10 x.f6.length c10, .slice A11 x.f7.length c11, .bool x.f8, .string x.f9] 47 (0, 0)) ∧ w'.heap[s.2.2]? = some (.cells #[.int .i64 0, .int .i64 0, .string (⟨#[]⟩ : ByteArray), .int .i64 0, .int .i64 0, .int .i64 0, .string (⟨#[]⟩ : ByteArray), .int .i64 0, .slice none 0 0, .slice none 0 0, .int .i64 0, .int .i64 0] 41 (0, 0)) ∧ n0 ≤ s.2.2 ∧ Kd.S k41 41 w' W4.heap.size (fun k => k < n0) u6 out ∧ Kd.R k38 38 w' W4.heap.size (fun k => n0 ≤ k) (.slice s.1 x.f6.length s.2.1) x.f6) ?_ ?_
                    rotate_left
                    · intro hcont
                      refine two_ (i := 10) (j := 13) (Ni := some 48) (Nj := some 9) #[true, true, true, true, true, true, true, true, true, true, true, true, false, false, false] #[true, true, true, true, true, true, true, true, true, true, false, true, false, true, false] rfl rfl rfl rfl (by kernel_rfl) (by decide) (by decide) (fun K hK => ?_) (fun K hK => ?_)
                      · refine goes_ Tryd.func23 (by kernel_rfl) rfl #[.slice A10 x.f6.length c10] (by rfl) rfl rfl (by (try simp only [List.map_toArray, List.map_cons, List.map_nil]); first | done | rfl) ?_
                        with_reducible refine (zcc.calls _ _ x.f6 x.f6 _ ?s1 ?s2 (by unfold zcc.f; rw [if_pos C6.out])).mono ?_
                        (case s1 => exact Kd.za9 HI10.out HB7.out)
                        (case s2 => exact HL10.out)
                        rintro e w8 ⟨v8, rfl, ho8, hb8⟩
                        obtain ⟨Aa, ca, ea⟩ := Kd.R_slice ho8
                        subst ea
                        refine ⟨_, rfl, ?_⟩
                        have HB8 := zab.mk (za1 HB7.out HB7.out.size hb8)
                        have BX8 := zab.mk (zaw BX7.out hb8)
                        have HO8 := zab.mk (Kd.S_below HO7.out hb8)
                        have HR8 := zab.mk (Kd.R_mono (Kd.zcd (Kd.R_bound ho8) HB7.out.size) (fun k hk => (Nat.le_trans NZ7.out hk.2.1 : n0 ≤ k)))
                        have NZ8 := zab.mk (Nat.le_trans NZ7.out hb8.size)
                        clear ho8 hb8
                        refine hK.out _ _ ⟨(zae BX8.out 1).trans rfl, (zae BX8.out 2).trans rfl, (zae BX8.out 3).trans rfl, (zae BX8.out 5).trans rfl, (zae BX8.out 6).trans rfl, (zae BX8.out 7).trans rfl, (zae BX8.out 8).trans rfl, (zae BX8.out 9).trans rfl, (zae BX8.out 10).trans rfl⟩ (fun hHeld => ?_)
                        clear hK K
                        refine norm_ (a' := ?_) ?_ ?_
                        rotate_left
                        · show Act.put _ (some 48) _ = _
                          simp only [zps]
                          rfl
                        refine pz_ 12 50 ?_ ?_ (bz 15 8191) rfl rfl (by kernel_rfl) (fun _ _ _ h => h) (Or.inl ⟨by rfl, ?_⟩) ?_ ?_; rotate_left 2; (intro w'; go_simp; with_reducible rfl); (simp only [zps]; rfl)
                        refine one_ (i := 13) (N := some 9) (bz 15 16383) rfl rfl (by kernel_rfl) (by decide) (fun K hK => ?_)
                        refine box_step ?hw (N := 9) ?hd (cs := #[.int .i64 0, .int .i64 0, .string (⟨#[]⟩ : ByteArray), .int .i64 0, .int .i64 0, .int .i64 0, .string (⟨#[]⟩ : ByteArray), .int .i64 0, .slice none 0 0, .slice none 0 0, .int .i64 0, .int .i64 0]) (t := 41) ?hr ?_
                        (case hw => rfl)
                        (case hd => rfl)
                        (case hr => first | (go_simp; done) | (go_simp; rfl))
                        intro go hg w9 hbox hb
                        have BX9 := zab.mk (zaw BX8.out hb)
                        refine hK.out _ _ ⟨(zae BX9.out 1).trans rfl, (zae BX9.out 2).trans rfl, (zae BX9.out 3).trans rfl, (zae BX9.out 5).trans rfl, (zae BX9.out 6).trans rfl, (zae BX9.out 7).trans rfl, (zae BX9.out 8).trans rfl, (zae BX9.out 9).trans rfl, (zae BX9.out 10).trans rfl⟩ (fun hHeld => ?_)
                        refine hcont ⟨Aa, ca, go⟩ w9 ⟨za1 HB8.out HB8.out.size hb, BX9.out, hbox, ?_, Kd.S_below HO8.out hb, Kd.zbv HR8.out hb⟩
                        show n0 ≤ go
                        rw [hg]
                        exact NZ8.out
                      · refine box_step ?hw (N := 9) ?hd (cs := #[.int .i64 0, .int .i64 0, .string (⟨#[]⟩ : ByteArray), .int .i64 0, .int .i64 0, .int .i64 0, .string (⟨#[]⟩ : ByteArray), .int .i64 0, .slice none 0 0, .slice none 0 0, .int .i64 0, .int .i64 0]) (t := 41) ?hr ?_
                        (case hw => rfl)
                        (case hd => rfl)
                        (case hr => first | (go_simp; done) | (go_simp; rfl))
                        intro go hg w9 hbox hb
                        have HB9 := zab.mk (za1 HB7.out HB7.out.size hb)
                        have BX9 := zab.mk (zaw BX7.out hb)
                        have BO9 := zab.mk hbox
                        have HO9 := zab.mk (Kd.S_below HO7.out hb)
                        have NG := zab.mk (show n0 ≤ go by rw [hg]; exact NZ7.out)
                        have NZ9 := zab.mk (Nat.le_trans NZ7.out hb.size)
                        clear hbox hb hg
                        refine hK.out _ _ ⟨(zae BX9.out 1).trans rfl, (zae BX9.out 2).trans rfl, (zae BX9.out 3).trans rfl, (zae BX9.out 5).trans rfl, (zae BX9.out 6).trans rfl, (zae BX9.out 7).trans rfl, (zae BX9.out 8).trans rfl, (zae BX9.out 9).trans rfl, (zae BX9.out 10).trans rfl⟩ (fun hHeld => ?_)
                        clear hK K
                        refine norm_ (a' := ?_) ?_ ?_
                        rotate_left
                        · show Act.put _ (some 9) _ = _
                          simp only [zps]
                          rfl
                        refine one_ (i := 10) (N := some 48) (bz 15 12287) rfl rfl (by kernel_rfl) (by decide) (fun K hK => ?_)
                        refine goes_ Tryd.func23 (by kernel_rfl) rfl #[.slice A10 x.f6.length c10] (by rfl) rfl rfl (by (try simp only [List.map_toArray, List.map_cons, List.map_nil]); first | done | rfl) ?_
                        with_reducible refine (zcc.calls _ _ x.f6 x.f6 _ ?s1 ?s2 (by unfold zcc.f; rw [if_pos C6.out])).mono ?_
                        (case s1 => exact Kd.za9 HI10.out HB9.out)
                        (case s2 => exact HL10.out)
                        rintro e w8 ⟨v8, rfl, ho8, hb8⟩
                        obtain ⟨Aa, ca, ea⟩ := Kd.R_slice ho8
                        subst ea
                        refine ⟨_, rfl, ?_⟩
                        have BX8 := zab.mk (zaw BX9.out hb8)
                        refine hK.out _ _ ⟨(zae BX8.out 1).trans rfl, (zae BX8.out 2).trans rfl, (zae BX8.out 3).trans rfl, (zae BX8.out 5).trans rfl, (zae BX8.out 6).trans rfl, (zae BX8.out 7).trans rfl, (zae BX8.out 8).trans rfl, (zae BX8.out 9).trans rfl, (zae BX8.out 10).trans rfl⟩ (fun hHeld => ?_)
                        refine norm_ (a' := ?_) ?_ ?_
                        rotate_left
                        · show Act.put _ (some 48) _ = _
                          simp only [zps]
                          rfl
                        refine pz_ 12 50 ?_ ?_ (bz 15 16383) rfl rfl (by kernel_rfl) (fun _ _ _ h => h) (Or.inl ⟨by rfl, ?_⟩) ?_ ?_; rotate_left 2; (intro w'; go_simp; with_reducible rfl); (simp only [zps]; rfl)
                        exact hcont ⟨Aa, ca, go⟩ w8 ⟨za1 HB9.out HB9.out.size hb8, BX8.out, zaw BO9.out hb8, NG.out, Kd.S_below HO9.out hb8, Kd.R_mono (Kd.zcd (Kd.R_bound ho8) HB9.out.size) (fun k hk => (Nat.le_trans NZ9.out hk.2.1 : n0 ≤ k))⟩
                    · rintro ⟨Aa, ca, go⟩ w8 ⟨hB8, hX8, hG8, hn8, hO8, hR8⟩
                      replace hG8 : w8.heap[go]? = some (.cells #[.int .i64 0, .int .i64 0, .string (⟨#[]⟩ : ByteArray), .int .i64 0, .int .i64 0, .int .i64 0, .string (⟨#[]⟩ : ByteArray), .int .i64 0, .slice none 0 0, .slice none 0 0, .int .i64 0, .int .i64 0] 41 (0, 0)) := hG8
                      replace hn8 : n0 ≤ go := hn8
                      replace hR8 : Kd.R k38 38 w8 W4.heap.size (fun k => n0 ≤ k) (.slice Aa x.f6.length ca) x.f6 := hR8
                      have HB8 := zab.mk hB8
                      have BO8 := zab.mk hG8
                      have NG := zab.mk hn8
                      have HO8 := zab.mk hO8
                      have HR8 := zab.mk hR8
                      clear hB8 hX8 hG8 hn8 hO8 hR8 BX7 HB7 HO7 NZ7 hHeld
                      refine norm_ (a' := ?_) ?_ ?_
                      rotate_left
                      · simp only [putAll, Act.put, List.setIfInBounds_toArray, List.set_cons_zero, List.set_cons_succ, i64_w]
                        rfl
                      refine last_ (i := 14) (N := none) (bz 15 32767) rfl rfl (by kernel_rfl) (by decide) (fun K hK => ?_)
                      have t0 : w8.cell? ⟨go, 0, none⟩ = some (.int .i64 0) := (zae BO8.out 0).trans rfl
                      have t1 : w8.cell? ⟨go, 1, none⟩ = some (.int .i64 0) := (zae BO8.out 1).trans rfl
                      have t2 : w8.cell? ⟨go, 2, none⟩ = some (.string (⟨#[]⟩ : ByteArray)) := (zae BO8.out 2).trans rfl
                      have t3 : w8.cell? ⟨go, 3, none⟩ = some (.int .i64 0) := (zae BO8.out 3).trans rfl
                      have t4 : w8.cell? ⟨go, 4, none⟩ = some (.int .i64 0) := (zae BO8.out 4).trans rfl
                      have t5 : w8.cell? ⟨go, 5, none⟩ = some (.int .i64 0) := (zae BO8.out 5).trans rfl
                      have t6 : w8.cell? ⟨go, 6, none⟩ = some (.string (⟨#[]⟩ : ByteArray)) := (zae BO8.out 6).trans rfl
                      have t7 : w8.cell? ⟨go, 7, none⟩ = some (.int .i64 0) := (zae BO8.out 7).trans rfl
                      have t8 : w8.cell? ⟨go, 8, none⟩ = some (.slice none 0 0) := (zae BO8.out 8).trans rfl
                      have t9 : w8.cell? ⟨go, 9, none⟩ = some (.slice none 0 0) := (zae BO8.out 9).trans rfl
                      have t10 : w8.cell? ⟨go, 10, none⟩ = some (.int .i64 0) := (zae BO8.out 10).trans rfl
                      have t11 : w8.cell? ⟨go, 11, none⟩ = some (.int .i64 0) := (zae BO8.out 11).trans rfl
                      have tf0 := zah BO8.out 0
                      have tf1 := zah BO8.out 1
                      have tf2 := zah BO8.out 2
                      have tf3 := zah BO8.out 3
                      have tf4 := zah BO8.out 4
                      have tf5 := zah BO8.out 5
                      have tf6 := zah BO8.out 6
                      have tf7 := zah BO8.out 7
                      have tf8 := zah BO8.out 8
                      have tf9 := zah BO8.out 9
                      have tf10 := zah BO8.out 10
                      have tf11 := zah BO8.out 11
                      refine skip_ (w1 := ?_) (by rfl) rfl ?_ ?_
                      rotate_left
                      · go_simp
                        rfl
                      refine hK.out _ _ ?_
                      clear hK K t0 t1 t2 t3 t4 t5 t6 t7 t8 t9 t10 t11 tf0 tf1 tf2 tf3 tf4 tf5 tf6 tf7 tf8 tf9 tf10 tf11
                      refine zb0 (G := fun W => zba _ _ _ _ _ _ _ _ _ W) _ (fun W9 hW9 => ?_)
                      have BO9 := zab.mk (show W9.heap[go]? = some (.cells #[.int .i64 x.f1.f0, .int .i64 x.f1.f1, .string x.f1.f2, .int .i64 x.f3, .int .i64 x.f4.f0, .int .i64 x.f4.f1, .string x.f4.f2, .int .i64 x.f5, .slice Aa x.f6.length ca, .slice none 0 0, .int .i64 i, .int .i64 (-1)] 41 (0, 0)) by rw [hW9]; exact put12' BO8.out)
                      have HB9 := zab.mk (show Below W4.heap.size W4 W9 by rw [hW9]; exact belown12 HB8.out (Nat.le_trans NB.out NG.out))
                      have HO9 := zab.mk (show Kd.S k41 41 W9 W4.heap.size (fun k => k < n0) u6 out by rw [hW9]; exact farS12 HO8.out (fun k hk => by have := NG.out; omega))
                      have HR9 := zab.mk (show Kd.R k38 38 W9 W4.heap.size (fun k => n0 ≤ k ∧ k ≠ go) (.slice Aa x.f6.length ca) x.f6 by rw [hW9]; exact farR12 (Kd.R_types HR8.out BO8.out T38) (fun k hk => hk.2))
                      clear hW9 BO8 HB8 HO8 HR8
                      refine done_ (by kernel_rfl) ?_
                      obtain ⟨ade, eae, hve⟩ := Kd.at_int HCE.out i HI0.out C5.out
                      cases eae
                      obtain ⟨en, hen⟩ : ∃ en, en = rd s1.ends i := ⟨_, rfl⟩
                      rw [← hen] at hve
                      have HA3' := HA3.out
                      rw [← hen] at HA3'
                      have hv := (HB9.out.cell (World.block_lt_of_cell? W4 _ HV.out.2)).trans HV.out.2
                      have hv2 := zaf HB9.out hve
                      have p5 := eq_true C5.out
                      clear hen hve HA3
                      by_cases c7 : 0 < en
                      · rw [if_pos c7] at HA3'
                        have q7 : decide (0 < en) = true := decide_eq_true c7
                        have c7' := zab.mk c7
                        clear c7
                        by_cases c8 : en < (l.length : Int)
                        · rw [if_pos c8] at HA3'
                          by_cases c9 : (zav l en).f7.length < 4398046511104
                          · rw [if_pos c9] at HA3'
                            obtain rfl := Option.some.inj HA3'
                            clear HA3'
                            have C8 := zab.mk c8
                            have C9 := zab.mk c9
                            clear c8 c9
                            obtain ⟨ad2, B10, d10, B11, d11, ea2, hm0, hm1, hm2, hm3, hm4, hm5, hm6, hm7, hm8, hm9, hm10, hm11, hm12, hm13, hk10, hj10, hk11, hj11⟩ := at_T47 HR4.out en (by have := c7'.out; omega) C8.out
                            cases ea2
                            have HI11 := zab.mk hj11
                            have HL11 := zab.mk hk11
                            have z11 := zaf HB9.out hm11
                            clear hm0 hm1 hm2 hm3 hm4 hm5 hm6 hm7 hm8 hm9 hm10 hm11 hm12 hm13 hk10 hj10 hk11 hj11
                            have p6 : (0 ≤ en) = True := eq_true (by have := c7'.out; omega)
                            have p7 := eq_true C8.out
                            go_upto_region 13 with ((with_reducible refine za6 (f := 23) rfl ?_); refine zbo (some 66) rfl rfl Tryd.func23 (by kernel_rfl) rfl #[.slice B11 (zav l en).f7.length d11] rfl (by (try simp only [List.map_toArray, List.map_cons, List.map_nil]); first | done | rfl) ?_; (with_reducible refine (zcc.calls _ _ (zav l en).f7 (zav l en).f7 _ ?s1 ?s2 (by unfold zcc.f; rw [if_pos C9.out])).mono ?_); (case s1 => exact Kd.za9 HI11.out HB9.out); (case s2 => exact HL11.out); rintro e w10 ⟨v10, rfl, ho10, hb10⟩; obtain ⟨Ao, co, eo⟩ := Kd.R_slice ho10; subst eo; refine ⟨_, rfl, ?_⟩; have HB10 := zab.mk (za1 HB9.out HB9.out.size hb10); have BO10 := zab.mk (zaw BO9.out hb10); have HO10 := zab.mk (Kd.S_below HO9.out hb10); have HR10 := zab.mk (Kd.zbv HR9.out hb10); have HQ10 := zab.mk (Kd.R_mono (Kd.zcd (Kd.R_bound ho10) HB9.out.size) (fun k hk => (⟨Nat.le_trans NG.out (Nat.le_trans (Nat.le_of_lt (zbp BO9.out)) hk.2.1), fun e_ => by have h1 := zbp BO9.out; have h2 := hk.2.1; omega⟩ : n0 ≤ k ∧ k ≠ go))); clear ho10 hb10 hv hv2 z11; have t9 : w10.cell? ⟨go, 9, none⟩ = some (.slice none 0 0) := (zae BO10.out 9).trans rfl; have t11 : w10.cell? ⟨go, 11, none⟩ = some (.int .i64 (-1)) := (zae BO10.out 11).trans rfl; have tf9 := zah BO10.out 9; have tf11 := zah BO10.out 11)
                            refine zb0 (G := fun W => Code.wp _ _ _ _ W) _ (fun W11 hW11 => ?_)
                            have BO := zab.mk (show W11.heap[go]? = some (.cells #[.int .i64 x.f1.f0, .int .i64 x.f1.f1, .string x.f1.f2, .int .i64 x.f3, .int .i64 x.f4.f0, .int .i64 x.f4.f1, .string x.f4.f2, .int .i64 x.f5, .slice Aa x.f6.length ca, .slice Ao (zav l en).f7.length co, .int .i64 i, .int .i64 en] 41 (0, 0)) by rw [hW11]; exact zaz (cs := #[.int .i64 x.f1.f0, .int .i64 x.f1.f1, .string x.f1.f2, .int .i64 x.f3, .int .i64 x.f4.f0, .int .i64 x.f4.f1, .string x.f4.f2, .int .i64 x.f5, .slice Aa x.f6.length ca, .slice none 0 0, .int .i64 i, .int .i64 en]) (zaz (cs := #[.int .i64 x.f1.f0, .int .i64 x.f1.f1, .string x.f1.f2, .int .i64 x.f3, .int .i64 x.f4.f0, .int .i64 x.f4.f1, .string x.f4.f2, .int .i64 x.f5, .slice Aa x.f6.length ca, .slice none 0 0, .int .i64 i, .int .i64 (-1)]) BO10.out 11 (.int .i64 en) rfl) 9 _ rfl)
                            have HB := zab.mk (show Below W4.heap.size W4 W11 by rw [hW11]; exact (HB10.out.setCell (p := ⟨go, 11, none⟩) (Nat.le_trans NB.out NG.out) _).setCell (p := ⟨go, 9, none⟩) (Nat.le_trans NB.out NG.out) _)
                            have HO := zab.mk (show Kd.S k41 41 W11 W4.heap.size (fun k => k < n0) u6 out by rw [hW11]; exact Kd.S_far (p := ⟨go, 9, none⟩) (Kd.S_far (p := ⟨go, 11, none⟩) HO10.out (fun k hk => by have := NG.out; show k ≠ go; omega) _) (fun k hk => by have := NG.out; show k ≠ go; omega) _)
                            have HR := zab.mk (show Kd.R k38 38 W11 W4.heap.size (fun k => n0 ≤ k) (.slice Aa x.f6.length ca) x.f6 by rw [hW11]; exact Kd.R_mono (Kd.R_far (p := ⟨go, 9, none⟩) (Kd.R_far (p := ⟨go, 11, none⟩) HR10.out (fun k hk => hk.2) _) (fun k hk => hk.2) _) (fun k hk => hk.1))
                            have HQ := zab.mk (show Kd.R k38 38 W11 W4.heap.size (fun k => n0 ≤ k) (.slice Ao (zav l en).f7.length co) (zav l en).f7 by rw [hW11]; exact Kd.R_mono (Kd.R_far (p := ⟨go, 9, none⟩) (Kd.R_far (p := ⟨go, 11, none⟩) HQ10.out (fun k hk => hk.2) _) (fun k hk => hk.2) _) (fun k hk => hk.1))
                            clear hW11 HB10 BO10 HO10 HR10 HQ10 t9 t11 tf9 tf11 BO9 HB9 HO9 HR9
                            have t0 : W11.cell? ⟨go, 0, none⟩ = some (.int .i64 x.f1.f0) := (zae BO.out 0).trans rfl
                            have t1 : W11.cell? ⟨go, 1, none⟩ = some (.int .i64 x.f1.f1) := (zae BO.out 1).trans rfl
                            have t2 : W11.cell? ⟨go, 2, none⟩ = some (.string x.f1.f2) := (zae BO.out 2).trans rfl
                            have t3 : W11.cell? ⟨go, 3, none⟩ = some (.int .i64 x.f3) := (zae BO.out 3).trans rfl
                            have t4 : W11.cell? ⟨go, 4, none⟩ = some (.int .i64 x.f4.f0) := (zae BO.out 4).trans rfl
                            have t5 : W11.cell? ⟨go, 5, none⟩ = some (.int .i64 x.f4.f1) := (zae BO.out 5).trans rfl
                            have t6 : W11.cell? ⟨go, 6, none⟩ = some (.string x.f4.f2) := (zae BO.out 6).trans rfl
                            have t7 : W11.cell? ⟨go, 7, none⟩ = some (.int .i64 x.f5) := (zae BO.out 7).trans rfl
                            have t8 : W11.cell? ⟨go, 8, none⟩ = some (.slice Aa x.f6.length ca) := (zae BO.out 8).trans rfl
                            have t9 : W11.cell? ⟨go, 9, none⟩ = some (.slice Ao (zav l en).f7.length co) := (zae BO.out 9).trans rfl
                            have t10 : W11.cell? ⟨go, 10, none⟩ = some (.int .i64 i) := (zae BO.out 10).trans rfl
                            have t11 : W11.cell? ⟨go, 11, none⟩ = some (.int .i64 en) := (zae BO.out 11).trans rfl
                            go_wp2_with ((with_reducible refine zb2 (b := .append) (xs := #[.tmp 69, .tmp 71]) rfl ?_); at_builtin; refine Kd.S_append k41 (w0 := W4) W4.heap.size rfl (.tmp 69) (.tmp 71) 32 41 (.agg #[(.int .i64 0), (.int .i64 0), (.string ⟨#[]⟩), (.int .i64 0), (.int .i64 0), (.int .i64 0), (.string ⟨#[]⟩), (.int .i64 0), (.slice none 0 0), (.slice none 0 0), (.int .i64 0), (.int .i64 0)]) 144 rfl Tryd.underlying32 info41 rfl (by decide) (by omega) u6 out (⟨x.f1, x.f3, x.f4, x.f5, x.f6, (zav l en).f7, i, en⟩ : S41) [.int .i64 x.f1.f0, .int .i64 x.f1.f1, .string x.f1.f2, .int .i64 x.f3, .int .i64 x.f4.f0, .int .i64 x.f4.f1, .string x.f4.f2, .int .i64 x.f5, .slice Aa x.f6.length ca, .slice Ao (zav l en).f7.length co, .int .i64 i, .int .i64 en] (fun _ => True) (fun k_ => n0 ≤ k_) rfl rfl ?aP ?aK ?aF ?aO ?aB ?aS ?aL ?_; (case aP => exact k41_mkM _ _ _ (⟨x.f1, x.f3, x.f4, x.f5, x.f6, (zav l en).f7, i, en⟩ : S41) HR.out HQ.out); (case aK => exact fun k_ hk_ => ⟨trivial, fun e_ => by have h1 := S_own_ok HO.out k_ e_.symm; omega⟩); (case aF => exact fun _ _ => trivial); (case aO => exact Kd.S_mono HO.out (fun k_ hk_ => ⟨trivial, by omega⟩)); (case aB => exact HB.out); (case aS => exact HB.out.size); (case aL => have := HLO.out; omega); intro v12 w12 ho hb hg hat; have HO12 := zab.mk ho; have HB12 := zab.mk hb; clear ho hb hg hat HO HB BO HR HQ)
                            go_roundg k1
                            case measure => omega
                            case rel => exact ⟨i + 1, out ++ [(⟨x.f1, x.f3, x.f4, x.f5, x.f6, (zav l en).f7, i, en⟩ : S41)], rfl, ⟨by omega⟩, HA, ⟨by have := HLO.out; simp only [List.length_append, List.length_singleton]; omega⟩, HO12, HB12⟩
                          · rw [if_neg c9] at HA3'
                            cases HA3'
                        · rw [if_neg c8] at HA3'
                          cases HA3'
                      · rw [if_neg c7] at HA3'
                        have q7 : decide (0 < en) = false := decide_eq_false c7
                        clear c7
                        obtain rfl := Option.some.inj HA3'
                        clear HA3'
                        go_upto_region 13 with (fail)
                        refine zb0 (G := fun W => Code.wp _ _ _ _ W) _ (fun W11 hW11 => ?_)
                        have BO := zab.mk (show W11.heap[go]? = some (.cells #[.int .i64 x.f1.f0, .int .i64 x.f1.f1, .string x.f1.f2, .int .i64 x.f3, .int .i64 x.f4.f0, .int .i64 x.f4.f1, .string x.f4.f2, .int .i64 x.f5, .slice Aa x.f6.length ca, .slice none 0 0, .int .i64 i, .int .i64 (-1)] 41 (0, 0)) by rw [hW11]; exact BO9.out)
                        have HB := zab.mk (show Below W4.heap.size W4 W11 by rw [hW11]; exact HB9.out)
                        have HO := zab.mk (show Kd.S k41 41 W11 W4.heap.size (fun k => k < n0) u6 out by rw [hW11]; exact HO9.out)
                        have HR := zab.mk (show Kd.R k38 38 W11 W4.heap.size (fun k => n0 ≤ k) (.slice Aa x.f6.length ca) x.f6 by rw [hW11]; exact Kd.R_mono HR9.out (fun k hk => hk.1))
                        have HQ := zab.mk (show Kd.R k38 38 W11 W4.heap.size (fun k => n0 ≤ k) (.slice none 0 0) ([] : List S38) from Kd.R_nil _ _ _ _ _)
                        clear hW11 BO9 HB9 HO9 HR9 hv hv2
                        have t0 : W11.cell? ⟨go, 0, none⟩ = some (.int .i64 x.f1.f0) := (zae BO.out 0).trans rfl
                        have t1 : W11.cell? ⟨go, 1, none⟩ = some (.int .i64 x.f1.f1) := (zae BO.out 1).trans rfl
                        have t2 : W11.cell? ⟨go, 2, none⟩ = some (.string x.f1.f2) := (zae BO.out 2).trans rfl
                        have t3 : W11.cell? ⟨go, 3, none⟩ = some (.int .i64 x.f3) := (zae BO.out 3).trans rfl
                        have t4 : W11.cell? ⟨go, 4, none⟩ = some (.int .i64 x.f4.f0) := (zae BO.out 4).trans rfl
                        have t5 : W11.cell? ⟨go, 5, none⟩ = some (.int .i64 x.f4.f1) := (zae BO.out 5).trans rfl
                        have t6 : W11.cell? ⟨go, 6, none⟩ = some (.string x.f4.f2) := (zae BO.out 6).trans rfl
                        have t7 : W11.cell? ⟨go, 7, none⟩ = some (.int .i64 x.f5) := (zae BO.out 7).trans rfl
                        have t8 : W11.cell? ⟨go, 8, none⟩ = some (.slice Aa x.f6.length ca) := (zae BO.out 8).trans rfl
                        have t9 : W11.cell? ⟨go, 9, none⟩ = some (.slice none 0 0) := (zae BO.out 9).trans rfl
                        have t10 : W11.cell? ⟨go, 10, none⟩ = some (.int .i64 i) := (zae BO.out 10).trans rfl
                        have t11 : W11.cell? ⟨go, 11, none⟩ = some (.int .i64 (-1)) := (zae BO.out 11).trans rfl
                        go_wp2_with ((with_reducible refine zb2 (b := .append) (xs := #[.tmp 69, .tmp 71]) rfl ?_); at_builtin; refine Kd.S_append k41 (w0 := W4) W4.heap.size rfl (.tmp 69) (.tmp 71) 32 41 (.agg #[(.int .i64 0), (.int .i64 0), (.string ⟨#[]⟩), (.int .i64 0), (.int .i64 0), (.int .i64 0), (.string ⟨#[]⟩), (.int .i64 0), (.slice none 0 0), (.slice none 0 0), (.int .i64 0), (.int .i64 0)]) 144 rfl Tryd.underlying32 info41 rfl (by decide) (by omega) u6 out (⟨x.f1, x.f3, x.f4, x.f5, x.f6, [], i, -1⟩ : S41) [.int .i64 x.f1.f0, .int .i64 x.f1.f1, .string x.f1.f2, .int .i64 x.f3, .int .i64 x.f4.f0, .int .i64 x.f4.f1, .string x.f4.f2, .int .i64 x.f5, .slice Aa x.f6.length ca, .slice none 0 0, .int .i64 i, .int .i64 (-1)] (fun _ => True) (fun k_ => n0 ≤ k_) rfl rfl ?aP ?aK ?aF ?aO ?aB ?aS ?aL ?_; (case aP => exact k41_mkM _ _ _ (⟨x.f1, x.f3, x.f4, x.f5, x.f6, [], i, -1⟩ : S41) HR.out HQ.out); (case aK => exact fun k_ hk_ => ⟨trivial, fun e_ => by have h1 := S_own_ok HO.out k_ e_.symm; omega⟩); (case aF => exact fun _ _ => trivial); (case aO => exact Kd.S_mono HO.out (fun k_ hk_ => ⟨trivial, by omega⟩)); (case aB => exact HB.out); (case aS => exact HB.out.size); (case aL => have := HLO.out; omega); intro v12 w12 ho hb hg hat; have HO12 := zab.mk ho; have HB12 := zab.mk hb; clear ho hb hg hat HO HB BO HR HQ)
                        go_roundg k1
                        case measure => omega
                        case rel => exact ⟨i + 1, out ++ [(⟨x.f1, x.f3, x.f4, x.f5, x.f6, [], i, -1⟩ : S41)], rfl, ⟨by omega⟩, HA, ⟨by have := HLO.out; simp only [List.length_append, List.length_singleton]; omega⟩, HO12, HB12⟩
                  · rw [if_neg c6] at H4
                    cases H4
                · rw [if_neg c5] at H4
                  cases H4
            · have H3 := HA3.out
              rw [if_neg c3] at H3
              have q3 : (x.f2 == 1) = false := beq_eq_false_iff_ne.mpr c3
              have q3' : (x.f2 != 1) = true := bne_iff_ne.mpr c3
              clear c3 HA3
              obtain rfl := Option.some.inj H3
              have HA2 : zab (opL l s1.gone s1.ends k1 (i + 1) out = some out1) := ⟨by have := HA.out; rwa [List.append_nil] at this⟩
              clear HA H3
              go_wp2
              go_roundg k1
              case measure => omega
              case rel => exact ⟨i + 1, out, rfl, ⟨by omega⟩, HA2, ⟨by have := HLO.out; omega⟩, ⟨Kd.S_mono HO.out (fun _ _ => trivial)⟩, HB⟩
          · rw [if_neg c2] at H
            have c2b0 : decide (i < (l.length : Int)) = false := decide_eq_false c2
            clear c2
            obtain rfl := Option.some.inj H
            go_upto_region 15 with (fail)
            have z0 : wr.cell? ⟨gb, 0, none⟩ = some (.int .i64 0) := (zae (zaw BX4.out HB.out) 0).trans rfl
            have z1 : wr.cell? ⟨gb, 1, none⟩ = some (.int .i64 at1) := (zae (zaw BX4.out HB.out) 1).trans rfl
            obtain ⟨Av, cv, ev⟩ := Kd.S_slice HO.out
            subst ev
            refine start_ (n := 4) (ds := [3]) (S := fun w' => w'.cell? ⟨gb, 0, none⟩ = some (.int .i64 0) ∧ w'.cell? ⟨gb, 1, none⟩ = some (.int .i64 at1)) #[false, false, false, false] (by rfl) rfl rfl ⟨z0, z1⟩ (fun hHeld => ?_)
            have BR5 := zab.mk (zam (zaw BR4.out HB.out))
            have HB5 := zab.mk (zad (za1 HB4.out HB4.out.size HB.out))
            have HO5 := zab.mk (Kd.S_drew HO.out)
            clear z0 z1 HO HB
            generalize wr.drew = W5 at BR5 HB5 HO5 hHeld ⊢
            refine pz_ 0 74 ?_ ?_ (bz 4 1) rfl rfl (by kernel_rfl) (fun _ _ _ h => h) (Or.inl ⟨by rfl, ?_⟩) ?_ ?_; rotate_left 2; (intro w'; go_simp; with_reducible rfl); (simp only [zps]; rfl)
            refine pz_ 2 2 ?_ ?_ (bz 4 5) rfl rfl (by kernel_rfl) (fun _ _ _ h => h) (Or.inl ⟨by rfl, ?_⟩) ?_ ?_; rotate_left 2; (intro w'; go_simp; with_reducible rfl); (simp only [zps]; rfl)
            refine tz_ 1 75 ?_ ?_ (bz 4 7) rfl rfl (by kernel_rfl) (fun _ _ _ h => h) (Or.inl ⟨by rfl, ?_⟩) hHeld ?_ ?_; rotate_left 2; (rintro w' ⟨s0, s1⟩; go_simp; with_reducible rfl); (simp only [zps]; rfl)
            refine last_ (i := 3) (N := none) (bz 4 15) rfl rfl (by kernel_rfl) (by decide) (fun K hK => ?_)
            have y0 : W5.cell? ⟨w.heap.size, 0, none⟩ = some (.int .i64 0) := (zae BR5.out 0).trans rfl
            have y1 : W5.cell? ⟨w.heap.size, 1, none⟩ = some (.int .i64 0) := (zae BR5.out 1).trans rfl
            have f0 := zah BR5.out 0
            have f1 := zah BR5.out 1
            refine skip_ (w1 := ?_) (by rfl) rfl ?_ ?_
            rotate_left
            · go_simp
              rfl
            refine hK.out _ _ ?_
            clear hK K
            refine done_ (by kernel_rfl) ?_
            go_wp2
            (try simp only [Exit.inBlock, Exit.then])
            have BR6 := zaz (cs := #[.int .i64 0, .int .i64 0]) (cs' := #[.int .i64 0, .int .i64 at1]) (zaz (cs := #[.int .i64 0, .int .i64 0]) (cs' := #[.int .i64 0, .int .i64 0]) BR5.out 0 (.int .i64 0) rfl) 1 (.int .i64 at1) rfl
            refine bodyPost_ret (v := .tuple #[.slice Av out.length cv, .agg #[.int .i64 0, .int .i64 at1]]) (results_tc (fn := Tryd.f12) (p := 3) (u := 2) (ty := 27) rfl _ _ w.heap.size 27 _ _ _ rfl BR6 hu27 rfl info27s) rfl ?_
            have HB6 := (HB5.out.setCell (p := ⟨w.heap.size, 0, none⟩) (Nat.le_refl _) (.int .i64 0)).setCell (p := ⟨w.heap.size, 1, none⟩) (Nat.le_refl _) (.int .i64 at1)
            exact ⟨_, rfl, Kd.S_lower (Kd.S_set (Kd.S_set HO5.out BR5.out T41 0 _) (zaz (cs := #[.int .i64 0, .int .i64 0]) (cs' := #[.int .i64 0, .int .i64 0]) BR5.out 0 (.int .i64 0) rfl) T41 1 _) HB4.out.size, HB6⟩
    · have H : some (([] : List S41), e1, at1) = some (r1, r2, r3) := by have h9 := HH.out; rw [if_neg ce] at h9; exact h9
      simp only [Option.some.injEq, Prod.mk.injEq] at H
      obtain ⟨rfl, rfl, rfl⟩ := H
      have ce0 : (e1 == 0) = false := beq_eq_false_iff_ne.mpr ce
      have ce1 : (e1 != 0) = true := bne_iff_ne.mpr ce
      clear HH HCL ce
      go_upto_region 3 with (fail)
      refine start_ (n := 3) (ds := [2]) (S := fun w' => w'.cell? ⟨gb, 0, none⟩ = some (.int .i64 e1) ∧ w'.cell? ⟨gb, 1, none⟩ = some (.int .i64 at1)) #[false, false, false] (by rfl) rfl rfl ⟨x0, x1⟩ (fun hHeld => ?_)
      have BR5 := zab.mk (zam BR4.out)
      have HB5 := zab.mk (zad HB4.out)
      clear x0 x1
      generalize W4.drew = W5 at BR5 HB5 hHeld ⊢
      refine pz_ 1 2 ?_ ?_ (bz 3 2) rfl rfl (by kernel_rfl) (fun _ _ _ h => h) (Or.inl ⟨by rfl, ?_⟩) ?_ ?_; rotate_left 2; (intro w'; go_simp; with_reducible rfl); (simp only [zps]; rfl)
      refine tz_ 0 19 ?_ ?_ (bz 3 3) rfl rfl (by kernel_rfl) (fun _ _ _ h => h) (Or.inl ⟨by rfl, ?_⟩) hHeld ?_ ?_; rotate_left 2; (rintro w' ⟨s0, s1⟩; go_simp; with_reducible rfl); (simp only [zps]; rfl)
      refine last_ (i := 2) (N := none) (bz 3 7) rfl rfl (by kernel_rfl) (by decide) (fun K hK => ?_)
      have y0 : W5.cell? ⟨w.heap.size, 0, none⟩ = some (.int .i64 0) := (zae BR5.out 0).trans rfl
      have y1 : W5.cell? ⟨w.heap.size, 1, none⟩ = some (.int .i64 0) := (zae BR5.out 1).trans rfl
      have f0 := zah BR5.out 0
      have f1 := zah BR5.out 1
      refine skip_ (w1 := ?_) (by rfl) rfl ?_ ?_
      rotate_left
      · go_simp
        rfl
      refine hK.out _ _ ?_
      clear hK K
      refine done_ (by kernel_rfl) ?_
      go_wp2
      (try simp only [Exit.inBlock, Exit.then])
      have BR6 := zaz (cs := #[.int .i64 e1, .int .i64 0]) (cs' := #[.int .i64 e1, .int .i64 at1]) (zaz (cs := #[.int .i64 0, .int .i64 0]) (cs' := #[.int .i64 e1, .int .i64 0]) BR5.out 0 (.int .i64 e1) rfl) 1 (.int .i64 at1) rfl
      refine bodyPost_ret (v := .tuple #[.slice none 0 0, .agg #[.int .i64 e1, .int .i64 at1]]) (results_tc (fn := Tryd.f12) (p := 3) (u := 2) (ty := 27) rfl _ _ w.heap.size 27 _ _ _ rfl BR6 hu27 rfl info27s) rfl ?_
      have HB6 := (HB5.out.setCell (p := ⟨w.heap.size, 0, none⟩) (Nat.le_refl _) (.int .i64 e1)).setCell (p := ⟨w.heap.size, 1, none⟩) (Nat.le_refl _) (.int .i64 at1)
      exact ⟨_, rfl, Kd.S_nil _ _ _ _ _, HB6⟩
  · rw [if_neg hl] at h
    cases h
end Go.Proofs.YtikmmigfdchcpaaDoor.PP
