/-
  Proved: a part of the proof of the claim's statement (text Q29 of it).
  Conditions: none of ours.
-/
import Derived.Test.YtikmmigfdchcpaaDoorPeQ0
namespace Go.Proofs.YtikmmigfdchcpaaDoor.PP
open Go.RowKit Go.Proofs.YtikmmigfdchcpaaDoorW.PrintWords Go.Proofs.YtikmmigfdchcpaaDoorW.PrintLast Go.Proofs.YtikmmigfdchcpaaDoorW.PrintMore
set_option linter.unusedVariables false
set_option linter.unusedSimpArgs false
def zcc.f (l0 : List (S38)) : Option (List (S38)) := if l0.length < 4398046511104 then some l0 else none
set_option maxHeartbeats 8000000 in
set_option maxRecDepth 100000 in
theorem zcc.calls (A0 : Option Addr) (c0 : Nat) (l0 : List (S38)) (r : List (S38)) (w : World) (hr0 : Kd.C k38 w A0 l0.length l0) (hc0 : l0.length ≤ c0) (h : zcc.f l0 = some r) :
  Calls Tryd.prog 23 #[.slice A0 l0.length c0] w fun e w' => ∃ v0_ : Value, e = .returned (v0_) ∧ Kd.R k38 38 w' w.heap.size (fun _ => True) v0_ r ∧ Below w.heap.size w w' := by
 unfold zcc.f at h
 by_cases hlim : l0.length < 4398046511104
 ·rw [if_pos hlim] at h
  obtain rfl := Option.some.inj h
  clear h
  have LM := zab.mk hlim
  clear hlim
  have HR0 := zab.mk hr0
  have HC0 := zab.mk hc0
  clear hr0 hc0
  have HB := zab.mk (Below.refl w.heap.size w)
  have heq := fun (W : World) (a : Option Addr) (n : Nat) => Lib.run_eql_slice_nil (P := Tryd.prog) W 39 38 a n c0 0 0 Tryd.underlying39
  cases A0 with
  | none =>
   have hz : l0 = [] := by
    cases hl : l0 with
    | nil => rfl
    | cons x xs =>
     obtain ⟨ad, he, _⟩ := HR0.out.2.2 (by simp [hl])
     cases he
   subst hz
   go_enter Tryd.func23, Tryd.ntmps23
   go_wp2
   go_ret
   exact ⟨_, rfl, Kd.R_nil _ _ _ _ _, HB.out⟩
  | some ad =>
   go_enter Tryd.func23, Tryd.ntmps23
   go_wp2_with (first
    | ((with_reducible refine za2 (N := 5) rfl ?_); refine Kd.R_lit k38 w.heap.size 38 ?hg (N := 5) ?hd (xs := ([] : List (S38))) (inner := []) (ok := fun _ => True) (okp := fun _ => True) ?hr ?hp (fun _ hk => hk) trivial (Below.refl _ _) (Nat.le_refl _) (by simp) ?_; (case hd => rfl); (case hg => rfl); (case hr => first | (go_simp; done) | (go_simp; rfl)); (case hp => exact (Reps.none _ _)); intro v1 w1 ho1 hb1 hg_ hnew_; have HO1 := zab.mk ho1; have HB1 := zab.mk hb1; clear hg_ hnew_ ho1 hb1)
    | ((with_reducible refine zb2 (b := .append) (xs := #[.tmp 5, .tmp 6]) rfl ?_); at_builtin; refine Kd.R_append_rows k38 (w0 := w) w.heap.size rfl (.tmp 5) (.tmp 6) 39 38 (.agg #[(.int .i64 0), (.int .i64 0), (.string ⟨#[]⟩)]) 32 rfl Tryd.underlying39 info38 rfl (by decide) (by omega) v1 ([] : List (S38)) l0 _ _ _ (fun _ => True) (fun _ => False) rfl rfl ?aO ?aR (fun _ _ h => h) (fun _ h => h.elim) ?aF ?aB ?aS ?aL ?_; (case aR => exact Kd.za9 HR0.out HB1.out); (case aB => exact HB1.out); (case aF => exact (fun _ _ => trivial)); (case aO => exact HO1.out); (case aS => exact HB1.out.size); (case aL => have := LM.out; simp; omega); intro v2 w2 ho2 hb2 hg2 hat2; have HO2 := zab.mk ho2; have HB2 := zab.mk hb2; clear ho2 hb2 hg2 hat2))
   go_ret
   exact ⟨_, rfl, by have := HO2.out; simpa using this, HB2.out⟩
 ·rw [if_neg hlim] at h
  exact absurd h (by simp)
end Go.Proofs.YtikmmigfdchcpaaDoor.PP
