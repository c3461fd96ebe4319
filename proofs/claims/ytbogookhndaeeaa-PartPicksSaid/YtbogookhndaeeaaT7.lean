/-
  Proved: the walk of incognitolaw19.PartPicks for every handed operations and places.
  Conditions: none of ours (the form's own reach alone).
-/
import Derived.Test.YtbogookhndaeeaaRows
import Derived.Test.YtbogookhndaeeaaOpens
import Derived.Test.YtbogookhndaeeaaT6
import Derived.ProofKit
import Derived.OpenShut
import Derived.ShutString
import Derived.ChangeOld
namespace Go.Proofs.Ytbogookhndaeeaa.PP
open Go.RowKit Go.Proofs.YtbogookhndaeeaaW.PrintWords Go.Proofs.YtbogookhndaeeaaW.PrintLast Go.Proofs.YtbogookhndaeeaaW.PrintMore Go.Proofs.Ytbogookhndaeeaa.Opens
open Go.ChangeShapes Go.WideShapes Go.ChangeAt
set_option linter.unusedVariables false
theorem cells30 : Try.prog.cellsOf 30 = 1 := by kernel_rfl
theorem opens29 {H : Type} : Opens Try.prog H 29 k29 (fun x => x.f2.size ≤ 140737488351232) := by
  intro enc w base sp held fuel cs x h hw
  obtain ⟨xs, n, _, rfl, hcl, hxl, hf⟩ := DataW.trod_struct Try.underlying29 h
  rw [cells29] at hcl
  simp only [DataW.weights, Try.underlying29] at hw
  have hxl' : xs.length = 3 := hxl
  match cs, hcl with
  | [a, b, c], _ =>
    obtain ⟨y0, k0, s0⟩ := fieldAt (opens_int (k := .i64) Try.underlying3) 0 0 1 cells3 (hf 0 _ rfl) (by omega) rfl hw
    obtain ⟨y1, k1, s1⟩ := fieldAt (opens_int (k := .i64) Try.underlying2) 1 1 1 cells2 (hf 1 _ rfl) (by omega) rfl hw
    obtain ⟨y2, k2, s2⟩ := fieldAt (opens_string Try.underlying9) 2 2 1 cells9 (hf 2 _ rfl) (by omega) rfl hw
    exact ⟨⟨y0, y1, y2⟩, ⟨[a], [b, c], rfl, k0, ⟨[b], [c], rfl, k1, k2⟩⟩, s2⟩
theorem cells32 : Try.prog.cellsOf 32 = 12 := by kernel_rfl
theorem bytes29 : Try.prog.bytesOf 29 = 32 := by kernel_rfl
theorem bytes32 : Try.prog.bytesOf 32 = 144 := by kernel_rfl
theorem opens30 {H : Type} : Opens Try.prog H 30 (Kd.slice 29 k29) (fun l => l.length * 32 ≤ 140737488351232 ∧ ∀ y ∈ l, y.f2.size ≤ 140737488351232) :=
  opens_slice 29 Try.underlying30 cells29 bytes29 opens29
theorem opens32 {H : Type} : Opens Try.prog H 32 k32 (fun x => x.f4.length < 4398046511104 ∧ x.f5.length < 4398046511104) := by
  intro enc w base sp held fuel cs x h hw
  obtain ⟨xs, n, _, rfl, hcl, hxl, hf⟩ := DataW.trod_struct Try.underlying32 h
  rw [cells32] at hcl
  simp only [DataW.weights, Try.underlying32] at hw
  have hxl' : xs.length = 8 := hxl
  match cs, hcl with
  | [a0, a1, a2, a3, a4, a5, a6, a7, a8, a9, a10, a11], _ =>
    obtain ⟨y0, k0, s0⟩ := fieldAt opens29 0 0 3 cells29 (hf 0 _ rfl) (by omega) rfl hw
    obtain ⟨y1, k1, s1⟩ := fieldAt (opens_int (k := .i64) Try.underlying3) 1 3 1 cells3 (hf 1 _ rfl) (by omega) rfl hw
    obtain ⟨y2, k2, s2⟩ := fieldAt opens29 2 4 3 cells29 (hf 2 _ rfl) (by omega) rfl hw
    obtain ⟨y3, k3, s3⟩ := fieldAt (opens_int (k := .i64) Try.underlying3) 3 7 1 cells3 (hf 3 _ rfl) (by omega) rfl hw
    obtain ⟨y4, k4, s4⟩ := fieldAt opens30 4 8 1 cells30 (hf 4 _ rfl) (by omega) rfl hw
    obtain ⟨y5, k5, s5⟩ := fieldAt opens30 5 9 1 cells30 (hf 5 _ rfl) (by omega) rfl hw
    obtain ⟨y6, k6, s6⟩ := fieldAt (opens_int (k := .i64) Try.underlying3) 6 10 1 cells3 (hf 6 _ rfl) (by omega) rfl hw
    obtain ⟨y7, k7, s7⟩ := fieldAt (opens_int (k := .i64) Try.underlying3) 7 11 1 cells3 (hf 7 _ rfl) (by omega) rfl hw
    exact ⟨⟨y0, y1, y2, y3, y4, y5, y6, y7⟩, ⟨[a0, a1, a2], [a3, a4, a5, a6, a7, a8, a9, a10, a11], rfl, k0, ⟨[a3], [a4, a5, a6, a7, a8, a9, a10, a11], rfl, k1, ⟨[a4, a5, a6], [a7, a8, a9, a10, a11], rfl, k2, ⟨[a7], [a8, a9, a10, a11], rfl, k3, ⟨[a8], [a9, a10, a11], rfl, k4, ⟨[a9], [a10, a11], rfl, k5, ⟨[a10], [a11], rfl, k6, k7⟩⟩⟩⟩⟩⟩⟩, by have := s4.1; have := s5.1; show y4.length < 4398046511104 ∧ y5.length < 4398046511104; constructor <;> omega⟩
theorem opens22 {H : Type} : Opens Try.prog H 22 (Kd.slice 32 k32) (fun l => l.length * 144 ≤ 140737488351232 ∧ ∀ y ∈ l, y.f4.length < 4398046511104 ∧ y.f5.length < 4398046511104) :=
  opens_slice 32 Try.underlying22 cells32 bytes32 opens32
theorem opens23 {H : Type} : Opens Try.prog H 23 (Kd.slice 3 (Kd.int .i64)) (fun l => l.length * 8 ≤ 140737488351232 ∧ ∀ y ∈ l, (Lit.int .i64 y).wf = true) :=
  opens_slice 3 Try.underlying23 cells3 (by kernel_rfl) (opens_int Try.underlying3)
set_option maxHeartbeats 400000 in
theorem picks_over (w : World) (A0 : Option Addr) (n c0 : Nat) (A1 : Option Addr) (m c1 : Nat) (h : 60 < n) :
    Calls Try.prog 3 #[.slice A0 n c0, .slice A1 m c1] w fun e w' => e = .returned (.bool true) ∧ Below w.heap.size w w' := by
  have t60 : decide (60 < (n : Int)) = true := decide_eq_true (by omega)
  go_enter Try.func3, Try.ntmps3
  go_wp2_with (go_at_call 4; refine (wakes_true _).mono ?_; rintro e w1 ⟨rfl, hb1⟩; have HB1 := Aside0.mk hb1; clear hb1)
  go_ret
  exact ⟨rfl, HB1.out⟩
set_option maxHeartbeats 400000 in
theorem picks_over2 (w : World) (A0 : Option Addr) (n c0 : Nat) (A1 : Option Addr) (m c1 : Nat) (h : n ≤ 60) (h2 : 100 < m) :
    Calls Try.prog 3 #[.slice A0 n c0, .slice A1 m c1] w fun e w' => e = .returned (.bool true) ∧ Below w.heap.size w w' := by
  have t60 : decide (60 < (n : Int)) = false := decide_eq_false (by omega)
  have t100 : decide (100 < (m : Int)) = true := decide_eq_true (by omega)
  go_enter Try.func3, Try.ntmps3
  go_wp2_with (go_at_call 4; refine (wakes_true _).mono ?_; rintro e w1 ⟨rfl, hb1⟩; have HB1 := Aside0.mk hb1; clear hb1)
  go_ret
  exact ⟨rfl, HB1.out⟩
theorem picks_any (w : World) (A0 : Option Addr) (c0 : Nat) (l0 : List S32) (A1 : Option Addr) (c1 : Nat) (l1 : List Int) (hr0 : Kd.C k32 w A0 l0.length l0) (hc0 : l0.length ≤ c0) (hr1 : Kd.C (Kd.int .i64) w A1 l1.length l1) (hc1 : l1.length ≤ c1) (hs : Small l0) :
    Calls Try.prog 3 #[.slice A0 l0.length c0, .slice A1 l1.length c1] w fun e w' => e = .returned (.bool true) ∧ Below w.heap.size w w' := by
  rcases Nat.lt_or_ge 60 l0.length with h | h
  · exact picks_over w _ _ _ _ _ _ h
  · rcases Nat.lt_or_ge 100 l1.length with h2 | h2
    · exact picks_over2 w _ _ _ _ _ _ h h2
    · exact picks_main w A0 c0 l0 A1 c1 l1 hr0 hc0 hr1 hc1 hs h h2
end Go.Proofs.Ytbogookhndaeeaa.PP
