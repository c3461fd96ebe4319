/-
  Proved: the operations of a history's beginning are those of the whole history, cut off at that place: incognitolaw12.PairBegins answers true and leaves its arguments as they were.
  Conditions: what the package variables value.yes and value.no hold is what the program's own text lays (the card ties it); none of ours beside the form's own reach.
-/

import Derived.SevenTiedAt
import Derived.ProofKit
import Derived.LaidLaws
import Derived.Handed
import Derived.Test.YtikmmigfdchcpaaDoorPeZ
import Derived.Test.YtikmmigfdchcpaaDoorPeT6
import Derived.Test.YtikmmigfdchcpaaDoorCards
import Derived.Test.YtikmmigfdchcpaaDoorTie
namespace Go.Proofs.YtikmmigfdchcpaaDoor.PP.PairBeginsRow
open Go.RowKit Go.Proofs.YtikmmigfdchcpaaDoorW.PrintWords Go.Proofs.YtikmmigfdchcpaaDoorW.PrintLast Go.Proofs.YtikmmigfdchcpaaDoorW.PrintMore
open Go.ChangeShapes Go.WideShapes Go.ChangeAt Go.Proofs.YtikmmigfdchcpaaDoor.Opens
set_option linter.unusedVariables false
theorem holds_any (w : World) (A : Option Addr) (c : Nat) (l : List S47) (cut : Int) (hcut : 0 ≤ cut ∧ cut ≤ 255) (hG : Glob w) (hC : Kd.C k47 w A l.length l) (hc : l.length ≤ c) (hd : DataOk l) :
  Calls Tryd.prog 6 #[.slice A l.length c, .int .u8 cut] w fun e w' => e = .returned (.bool true) ∧ Below w.heap.size w w' := by
 exact pairBegins_any w A c l cut hcut hG hC hc hd
set_option maxRecDepth 100000 in
set_option maxHeartbeats 4000000 in
theorem lifted (os : Os) (started : os.Started) (H : Type) (enc : TypeId × Value → H) :
  ReturnsInHanded {} Tryd.checked os 6 .any (fun w args => (Rows.pairBeginsSpec.pre enc Tryd.prog Tryd.f6 Rows.pairBeginsRow.domain false w args ∧ laidMet Tryd.prog Rows.pairBeginsRow.laid w) ∧ sizedMet enc Tryd.prog Tryd.f6 (OpenSpec.ofChange Rows.pairBeginsSpec) false w args)
   (Rows.pairBeginsSpec.post enc Tryd.prog Tryd.f6 false true false false) := by
 refine returnsInHanded_of_change_and (C := Tryd.checked) (X := fun w _ => laidMet Tryd.prog Rows.pairBeginsRow.laid w) (fun _ _ _ hh h => h.of_heap hh) own started (by kernel_rfl) Tryd.func6
  (ChangeSpec.witness_at (enc := enc) (C := Tryd.checked) (os := os) (X := fun w _ => laidMet Tryd.prog Rows.pairBeginsRow.laid w) false (laidWorld os) #[.slice none 0 0, .int .u8 0] 8 rfl (by kernel_rfl) (by kernel_rfl) (by kernel_rfl) (by kernel_rfl) (by kernel_rfl) (laid_met os _)) ?_
 intro W base args ds gs before hval0 hW hcnd hsz0 hL _
 have hsz : (DataW.weightsEach Tryd.prog (Tryd.f6.params.toList ++ Rows.pairBeginsSpec.plain.varTypes Tryd.prog) (ds ++ gs)).all (· ≤ reachBytes) = true := hsz0
 have hval : ∀ (j : Nat) t v, Tryd.f6.params[j]? = some t → args[j]? = some v → Value.okWide Tryd.prog W .any base t v := hval0
 have hW' := hW
 obtain ⟨p, q, hA0, hV, rfl, hfz, hnd⟩ := hW
 have hA : DataW.TrodAll enc Tryd.prog W 0 (fun _ => true) true Tryd.f6.params.toList args.toList ds p := hA0
 rw [Tryd.params6] at hA hval hsz
 obtain ⟨v0, vs0, d0, ds0, p0, q0, hargs, rfl, rfl, h0, r0⟩ := trodAll_cons hA
 obtain ⟨v1, vs1, d1, ds1, p1, q1, hargs1, rfl, rfl, h1, r1⟩ := trodAll_cons r0
 obtain ⟨rfl, rfl, rfl⟩ := trodAll_nil r1
 obtain rfl : args = #[v0, v1] := by cases args; simp_all
 obtain ⟨cut, rfl, rfl, rfl, hw⟩ := open_int Tryd.underlying5 (hval 1 5 v1 rfl rfl) h1
 have hcut : 0 ≤ cut ∧ cut ≤ 255 := by
  have h := hw
  simp only [Lit.wf, Bool.and_eq_true, decide_eq_true_eq] at h
  exact h
 obtain ⟨rfl, rfl⟩ := trodVars_none hV
 have k0 := h0
 have lt0 : ∀ x ∈ p0, x.block < W.heap.size := by obtain ⟨m, hm⟩ := k0; exact DataW.trod_lt m _ _ _ hm
 obtain ⟨a0, len0, cap0, rfl⟩ := okWide_slice Tryd.underlying22 (hval 0 22 v0 rfl rfl)
 obtain ⟨f0, t0⟩ := h0
 obtain ⟨l0, ⟨A0, c0, e0, hc0, hC0⟩, hs0⟩ := opens22 enc W _ _ _ f0 _ _ t0 (all_of_Each hsz 0 22 d0 rfl rfl)
 simp only [Value.cells, List.cons.injEq, Value.slice.injEq, and_true] at e0
 obtain ⟨rfl, rfl, rfl⟩ := e0
 clear hA0 hval0 hsz0 hsz
 refine (holds_any W a0 cap0 l0 cut hcut (glob_of_laid hL) hC0 hc0 (data_ok hs0.2)).mono fun e W' ⟨he, bel⟩ => ?_
 subst he
 exact ⟨_, rfl, _, _, _, [], _, [], hW', trodAll_mk1 (shut_bool Tryd.underlying4 _), (trodAll_cons_mk (Below.trod laidOut (by kernel_rfl) (of_decide_eq_true (by kernel_rfl)) k0 bel lt0) (trodAll_cons_mk (shut_int Tryd.underlying5 hw) trodAll_mk0)), rfl, bel.frame _, fun h => by cases h⟩
theorem over : Rows.PairBeginsSaid :=
 OpenClaim.holds_of_wide 6 Tryd.f6 rfl rfl rfl rfl rfl rfl rfl ⟨rfl, rfl, rfl, rfl, rfl⟩ rfl rfl rfl rfl rfl (by kernel_rfl) Tryd.func6 (by kernel_rfl)
  (of_decide_eq_true (by kernel_rfl)) (by unfold Func.isWrapper; first | (rw [if_pos (by decide +kernel)]; kernel_rfl) | (rw [if_neg (by decide +kernel)]; exact ⟨rfl, rfl⟩))
  (fun os started H enc _ => lifted os started H enc)
theorem card : Rows.PairBeginsCardSaid :=
 Claim7.holds_tied_plain_at .later [] [.data, .data] true (true, "68a41237d86b20002a41d5cf2a0bcf6d41cc8344640cc5d85d3fd46004798b6d") false
  over (fun _ h => by cases h) (by kernel_rfl) (fun _ h => by cases h) pairBegins_row_tie rfl ⟨rfl, rfl⟩ (by kernel_rfl) rfl
  (fun f fn hf hfn => by
   obtain rfl : f = 6 := Option.some.inj ((show Tryd.prog.funcNamed "incognito/incognitolaw12.PairBegins" = some 6 by kernel_rfl).symm.trans hf) |>.symm
   obtain rfl : fn = Tryd.f6 := (Option.some.inj (Tryd.func6.symm.trans hfn)).symm
   exact ⟨by kernel_rfl, fun j t ht => by
    rw [Tryd.params6] at ht
    have h3 : t = 22 ∨ t = 5 := by
     rcases j with _ | _ | j
     ·left
      simpa using ht.symm
     ·right
      simpa using ht.symm
     ·simp at ht
    rcases h3 with rfl | rfl
    ·exact (show Tryd.prog.wantsStandIn 22 = false by kernel_rfl)
    ·exact (show Tryd.prog.wantsStandIn 5 = false by kernel_rfl)⟩)
  (by kernel_rfl)
end Go.Proofs.YtikmmigfdchcpaaDoor.PP.PairBeginsRow
namespace Go.Proofs.YtikmmigfdchcpaaDoor
theorem pairBegins_holds : Rows.PairBeginsCardSaid := PP.PairBeginsRow.card
end Go.Proofs.YtikmmigfdchcpaaDoor
