/-
  Proved: a part of the proof of the claim's statement (text Z of it).
  Conditions: none of ours.
-/
import Derived.ProofKit
import Derived.OpenShut
import Derived.ShutString
import Derived.ChangeOld
import Derived.LaidLaws
import Derived.RowKit
import Derived.ChangeVars
import Derived.FnData
import Derived.Test.YtikmmigfdchcpaaDoorPeQ0
import Derived.Test.YtikmmigfdchcpaaDoorPeOpens
import Derived.Test.YtikmmigfdchcpaaDoorPeL6
import Derived.Test.YtikmmigfdchcpaaDoorRows
namespace Go.Proofs.YtikmmigfdchcpaaDoor.PP
open Go.RowKit Go.Proofs.YtikmmigfdchcpaaDoorW.PrintWords Go.Proofs.YtikmmigfdchcpaaDoorW.PrintLast Go.Proofs.YtikmmigfdchcpaaDoorW.PrintMore
set_option linter.unusedVariables false
set_option linter.unusedSimpArgs false
open Go.ChangeShapes Go.WideShapes Go.ChangeAt
open Go.Proofs.YtikmmigfdchcpaaDoor.Opens
theorem own : ownKnob Tryd.prog.godebug = none := by kernel_rfl
def In38 (x : S38) : Prop := (Lit.int .i64 x.f0).wf = true ∧ (Lit.int .i64 x.f1).wf = true ∧ x.f2.size ≤ 140737488351232
theorem opens38 {H : Type} : Opens Tryd.prog H 38 k38 In38 := by
 intro enc w base sp held fuel cs x h hw
 obtain ⟨xs, n, _, rfl, hcl, hxl, hf⟩ := DataW.trod_struct Tryd.underlying38 h
 rw [cells38] at hcl
 simp only [DataW.weights, Tryd.underlying38] at hw
 have hxl' : xs.length = 3 := hxl
 match cs, hcl with
 | [a, b, c], _ =>
  obtain ⟨y0, k0, s0⟩ := fieldAt (opens_int (k := .i64) Tryd.underlying3) 0 0 1 cells3 (hf 0 _ rfl) (by omega) rfl hw
  obtain ⟨y1, k1, s1⟩ := fieldAt (opens_int (k := .i64) Tryd.underlying2) 1 1 1 cells2 (hf 1 _ rfl) (by omega) rfl hw
  obtain ⟨y2, k2, s2⟩ := fieldAt (opens_string Tryd.underlying9) 2 2 1 cells9 (hf 2 _ rfl) (by omega) rfl hw
  exact ⟨⟨y0, y1, y2⟩, ⟨[a], [b, c], rfl, k0, ⟨[b], [c], rfl, k1, k2⟩⟩, s0, s1, s2⟩
theorem bytes38 : Tryd.prog.bytesOf 38 = 32 := by kernel_rfl
theorem cells39 : Tryd.prog.cellsOf 39 = 1 := by kernel_rfl
theorem cells4 : Tryd.prog.cellsOf 4 = 1 := by kernel_rfl
theorem cells47 : Tryd.prog.cellsOf 47 = 14 := by kernel_rfl
theorem bytes47 : Tryd.prog.bytesOf 47 = 168 := by kernel_rfl
theorem opens39 {H : Type} : Opens Tryd.prog H 39 (Kd.slice 38 k38) (fun l => l.length * 32 ≤ 140737488351232 ∧ ∀ y ∈ l, In38 y) :=
 opens_slice 38 Tryd.underlying39 cells38 bytes38 opens38
def In47 (x : S47) : Prop := In38 x.f1 ∧ In38 x.f4 ∧ (x.f6.length * 32 ≤ 140737488351232 ∧ ∀ y ∈ x.f6, In38 y) ∧ (x.f7.length * 32 ≤ 140737488351232 ∧ ∀ y ∈ x.f7, In38 y) ∧ x.f9.size ≤ 140737488351232
theorem opens47 {H : Type} : Opens Tryd.prog H 47 k47 In47 := by
 intro enc w base sp held fuel cs x h hw
 obtain ⟨xs, n, _, rfl, hcl, hxl, hf⟩ := DataW.trod_struct Tryd.underlying47 h
 rw [cells47] at hcl
 simp only [DataW.weights, Tryd.underlying47] at hw
 have hxl' : xs.length = 10 := hxl
 match cs, hcl with
 | [a0, a1, a2, a3, a4, a5, a6, a7, a8, a9, a10, a11, a12, a13], _ =>
  obtain ⟨y0, k0, s0⟩ := fieldAt (opens_int (k := .i64) Tryd.underlying2) 0 0 1 cells2 (hf 0 _ rfl) (by omega) rfl hw
  obtain ⟨y1, k1, s1⟩ := fieldAt opens38 1 1 3 cells38 (hf 1 _ rfl) (by omega) rfl hw
  obtain ⟨y2, k2, s2⟩ := fieldAt (opens_int (k := .i64) Tryd.underlying3) 2 4 1 cells3 (hf 2 _ rfl) (by omega) rfl hw
  obtain ⟨y3, k3, s3⟩ := fieldAt (opens_int (k := .i64) Tryd.underlying3) 3 5 1 cells3 (hf 3 _ rfl) (by omega) rfl hw
  obtain ⟨y4, k4, s4⟩ := fieldAt opens38 4 6 3 cells38 (hf 4 _ rfl) (by omega) rfl hw
  obtain ⟨y5, k5, s5⟩ := fieldAt (opens_int (k := .i64) Tryd.underlying3) 5 9 1 cells3 (hf 5 _ rfl) (by omega) rfl hw
  obtain ⟨y6, k6, s6⟩ := fieldAt opens39 6 10 1 cells39 (hf 6 _ rfl) (by omega) rfl hw
  obtain ⟨y7, k7, s7⟩ := fieldAt opens39 7 11 1 cells39 (hf 7 _ rfl) (by omega) rfl hw
  obtain ⟨y8, k8, s8⟩ := fieldAt (opens_bool Tryd.underlying4) 8 12 1 cells4 (hf 8 _ rfl) (by omega) rfl hw
  obtain ⟨y9, k9, s9⟩ := fieldAt (opens_string Tryd.underlying9) 9 13 1 cells9 (hf 9 _ rfl) (by omega) rfl hw
  exact ⟨⟨y0, y1, y2, y3, y4, y5, y6, y7, y8, y9⟩, ⟨[a0], [a1, a2, a3, a4, a5, a6, a7, a8, a9, a10, a11, a12, a13], rfl, k0, ⟨[a1, a2, a3], [a4, a5, a6, a7, a8, a9, a10, a11, a12, a13], rfl, k1, ⟨[a4], [a5, a6, a7, a8, a9, a10, a11, a12, a13], rfl, k2, ⟨[a5], [a6, a7, a8, a9, a10, a11, a12, a13], rfl, k3, ⟨[a6, a7, a8], [a9, a10, a11, a12, a13], rfl, k4, ⟨[a9], [a10, a11, a12, a13], rfl, k5, ⟨[a10], [a11, a12, a13], rfl, k6, ⟨[a11], [a12, a13], rfl, k7, ⟨[a12], [a13], rfl, k8, k9⟩⟩⟩⟩⟩⟩⟩⟩⟩, s1, s4, s6, s7, s9⟩
theorem opens22 {H : Type} : Opens Tryd.prog H 22 (Kd.slice 47 k47) (fun l => l.length * 168 ≤ 140737488351232 ∧ ∀ y ∈ l, In47 y) :=
 opens_slice 47 Tryd.underlying22 cells47 bytes47 opens47
theorem sm_of {x : S38} (h : In38 x) : Sm x := by unfold Sm; have := h.2.2; omega
theorem data_ok {l : List S47} (h : ∀ y ∈ l, In47 y) : DataOk l := fun x hx => by
 obtain ⟨h1, h4, h6, h7, h9⟩ := h x hx
 refine ⟨⟨sm_of h1, sm_of h4, fun y hy => sm_of (h6.2 y hy), fun y hy => sm_of (h7.2 y hy), by omega, by omega, by omega⟩, ?_⟩
 simp only [keyOk, Bool.and_eq_true, decide_eq_true_eq]
 exact ⟨⟨h1.1, h1.2.1⟩, by have := h1.2.2; unfold maxLen; omega⟩
theorem yesN : Tryd.prog.globalNamed "incognito/value.yes" = some 0 := by kernel_rfl
theorem noN : Tryd.prog.globalNamed "incognito/value.no" = some 1 := by kernel_rfl
theorem yesT : (Tryd.prog.globals[0]?).map (·.type) = some 38 := by kernel_rfl
theorem noT : (Tryd.prog.globals[1]?).map (·.type) = some 38 := by kernel_rfl
theorem cells_read {w : World} {fuel : Nat} {cs : List Value} {a b : Int} {p : List MemPlace} (h : DataW.trod (fun _ => ()) Tryd.prog w 0 (fun _ => true) false fuel 38 cs = some (.agg [.lit (.int .i64 a), .lit (.int .i64 b), .lit (.string [])], p)) :
  cs = [.int .i64 a, .int .i64 b, .string ⟨#[]⟩] := by
 obtain ⟨xs, n, _, e, hcl, hxl, hf⟩ := DataW.trod_struct Tryd.underlying38 h
 rw [cells38] at hcl
 have hxl' : xs.length = 3 := hxl
 match cs, hcl, xs, hxl' with
 | [c0, c1, c2], _, [x0, x1, x2], _ =>
  have h0 : DataW.trod (fun _ => ()) Tryd.prog w 0 (fun _ => true) false n 3 (([c0, c1, c2].drop 0).take (Tryd.prog.cellsOf 3)) = some x0 := hf 0 _ rfl
  have h1 : DataW.trod (fun _ => ()) Tryd.prog w 0 (fun _ => true) false n 2 (([c0, c1, c2].drop 1).take (Tryd.prog.cellsOf 2)) = some x1 := hf 1 _ rfl
  have h2 : DataW.trod (fun _ => ()) Tryd.prog w 0 (fun _ => true) false n 9 (([c0, c1, c2].drop 2).take (Tryd.prog.cellsOf 9)) = some x2 := hf 2 _ rfl
  rw [cells3] at h0
  rw [cells2] at h1
  rw [cells9] at h2
  obtain ⟨e1, _⟩ := Prod.mk.inj e
  simp only [List.map_cons, List.map_nil, DataW.agg.injEq, List.cons.injEq, and_true] at e1
  obtain ⟨e10, e11, e12⟩ := e1
  simp only [List.drop_zero, List.drop_succ_cons, List.take_succ_cons, List.take_zero] at h0 h1 h2
  obtain ⟨s0, hc0, hx0, _⟩ := DataW.trod_int Tryd.underlying3 h0
  obtain ⟨s1, hc1, hx1, _⟩ := DataW.trod_int Tryd.underlying2 h1
  obtain ⟨s2, hc2, hx2, _⟩ := DataW.trod_string Tryd.underlying9 h2
  rw [hx0] at e10
  rw [hx1] at e11
  rw [hx2] at e12
  simp only [DataW.lit.injEq, Lit.int.injEq, Lit.string.injEq, true_and] at e10 e11 e12
  subst e10
  subst e11
  have hs : s2 = ⟨#[]⟩ := by
   obtain ⟨d⟩ := s2
   congr 1
   exact Array.toList_inj.1 e12.symm
  subst hs
  simp only [List.cons.injEq, and_true] at hc0 hc1 hc2
  rw [hc0, hc1, hc2]
theorem glob_of_laid {W : World} (h : laidMet Tryd.prog [("incognito/value.yes", Rows.laid_incognito_value_yes), ("incognito/value.no", Rows.laid_incognito_value_no)] W) : Glob W := by
 obtain ⟨ps, ⟨g, t, cs, fuel, p, q, hg, ht, hvar, hd, ⟨g2, t2, cs2, fuel2, p2, q2, hg2, ht2, hvar2, hd2, _, _⟩, _⟩, _⟩ := h
 obtain rfl := Option.some.inj (yesN.symm.trans hg)
 obtain rfl := Option.some.inj (yesT.symm.trans ht)
 obtain rfl := Option.some.inj (noN.symm.trans hg2)
 obtain rfl := Option.some.inj (noT.symm.trans ht2)
 have e1 := cells_read hd
 have e2 := cells_read hd2
 obtain rfl : cs = #[.int .i64 3, .int .i64 1, .string ⟨#[]⟩] := by obtain ⟨l⟩ := cs; simp only at e1; rw [e1]
 obtain rfl : cs2 = #[.int .i64 3, .int .i64 0, .string ⟨#[]⟩] := by obtain ⟨l⟩ := cs2; simp only at e2; rw [e2]
 exact ⟨by simpa using World.var?_cell hg hvar 0, by simpa using World.var?_cell hg hvar 1, by simpa using World.var?_cell hg hvar 2, by simpa using World.var?_cell hg2 hvar2 0, by simpa using World.var?_cell hg2 hvar2 1, by simpa using World.var?_cell hg2 hvar2 2⟩
noncomputable def laidWorld (os : Os) : World :=
 let w0 := World.holding Tryd.prog os ⟨#[], #[], []⟩
 { w0 with heap := (w0.heap.modify 0 fun
   | .cells _ t frozen => .cells #[.int .i64 3, .int .i64 1, .string ⟨#[]⟩] t frozen
   | o => o).modify 1 fun
   | .cells _ t frozen => .cells #[.int .i64 3, .int .i64 0, .string ⟨#[]⟩] t frozen
   | o => o }
theorem laid_met (os : Os) (args : Array Value) : laidMet Tryd.prog [("incognito/value.yes", Rows.laid_incognito_value_yes), ("incognito/value.no", Rows.laid_incognito_value_no)] ((laidWorld os).forCall (fun _ _ => 0) ⟨#[], args, []⟩).memory :=
 laidMet_of_run' 8 (by kernel_rfl) (by kernel_rfl)
end Go.Proofs.YtikmmigfdchcpaaDoor.PP
