-- A text of this seat: turned out of what the print tool wrote.
import Derived.Test.YtbogookhndaeeaaProg
import Derived.Below
import Derived.Deep.Draws
import Derived.Deep.AppendLies
import Derived.Maps.AppendAt
import Derived.OwnWalk
import Derived.Laws.BytesArg
import Derived.Laws.MakeOwn
import Derived.Laws.OwnMore
import Derived.Deep.OwnRows
import Derived.Tactics
import Derived.Lib.ConvBytes
import Derived.Laws.Slices
import Derived.WalkKit
import Derived.KernelRfl
import Derived.RowKit3
import Derived.Deep.LoopGhost
import Derived.Deep.QuietTactic
import Derived.BigQuiet
import Derived.WideLaws
import Derived.Deep.DeepCutAuto
import Derived.Deep.CutBlock
import Derived.Deep.RegionHeld3
import Derived.Laws.Rows
import Derived.Lib.AppendStr
import Derived.ArgAppend
import Derived.Laws.IdiomCopy
import Derived.OrdersHeld
import Derived.Laws.BitsLemmas
import Derived.RowKit
import Derived.WalkSpells
import Derived.Maps.OwnSet
import Derived.DeepKeys4
import Derived.Lib.Hide
import Derived.Test.YtbogookhndaeeaaWWords
import Derived.Test.YtbogookhndaeeaaWLast
import Derived.Test.YtbogookhndaeeaaWTab
import Derived.Test.YtbogookhndaeeaaWFour
import Derived.Test.YtbogookhndaeeaaWQPut
import Derived.Test.YtbogookhndaeeaaWApart
import Derived.Test.YtbogookhndaeeaaWArr
import Derived.Test.YtbogookhndaeeaaWZeros
import Derived.Test.YtbogookhndaeeaaWFoot
import Derived.Test.YtbogookhndaeeaaWKept
import Derived.Test.YtbogookhndaeeaaWShare
import Derived.Test.YtbogookhndaeeaaWN
import Derived.Test.YtbogookhndaeeaaWFootNe
import Derived.Test.YtbogookhndaeeaaWAt
import Derived.Test.YtbogookhndaeeaaWEqStruct
import Derived.Test.YtbogookhndaeeaaWRepsOne
import Derived.Test.YtbogookhndaeeaaWInv
import Derived.Test.YtbogookhndaeeaaWInvWords
import Derived.Test.YtbogookhndaeeaaWGuard
import Derived.Test.YtbogookhndaeeaaWNEv
import Derived.Test.YtbogookhndaeeaaWMore
namespace Go.Proofs.Ytbogookhndaeeaa.PP
open Go.RowKit Go.Proofs.YtbogookhndaeeaaW.PrintWords Go.Proofs.YtbogookhndaeeaaW.PrintLast Go.Proofs.YtbogookhndaeeaaW.PrintMore
attribute [local go_sem] max2_int min2_int max_two min_two max_three min_three max_four min_four   -- for this text's walks alone
set_option linter.unusedVariables false
set_option linter.unusedSimpArgs false



def errW : Option Int → Value
  | none => .nilIface
  | some c => .iface 0 (.int .i64 c)
theorem errW_none : errW none = .nilIface := rfl
theorem errW_some (c : Int) : errW (some c) = .iface 0 (.int .i64 c) := rfl

theorem info3 : (Try.prog.info? 3).map (fun i => (i.zero, i.size, i.bytes)) = some (some (.int .i64 0), 1, 8) := by kernel_rfl
theorem info23 : (Try.prog.info? 23).map (fun i => (i.zero, i.size, i.bytes)) = some (some (.slice none 0 0), 1, 24) := by kernel_rfl
theorem info29 : (Try.prog.info? 29).map (fun i => (i.zero, i.size, i.bytes)) = some (some (.agg #[(.int .i64 0), (.int .i64 0), (.string ⟨#[]⟩)]), 3, 32) := by kernel_rfl
theorem info32 : (Try.prog.info? 32).map (fun i => (i.zero, i.size, i.bytes)) = some (some (.agg #[(.int .i64 0), (.int .i64 0), (.string ⟨#[]⟩), (.int .i64 0), (.int .i64 0), (.int .i64 0), (.string ⟨#[]⟩), (.int .i64 0), (.slice none 0 0), (.slice none 0 0), (.int .i64 0), (.int .i64 0)]), 12, 144) := by kernel_rfl
-- the values' own types
def rd_L1 (xs : List (List Int)) (i : Int) : (List Int) := xs.getD i.toNat ([] : List Int)
theorem at_L1 {w : World} {A : Option Addr} {n : Nat} {xs : List (List Int)} (h : Kd.C (Kd.slice 3 (Kd.int .i64)) w A n xs) (i : Int) (h0 : 0 ≤ i) (h1 : i < n) : ∃ ad A0 c0, A = some ad ∧ w.cell? (ad.add i.toNat) = some (.slice A0 (rd_L1 xs i).length c0) ∧ (rd_L1 xs i).length ≤ c0 ∧ (Kd.int .i64).C w A0 (rd_L1 xs i).length (rd_L1 xs i) := by
  obtain ⟨ad, c, e, _, hK, hc0⟩ := Kd.C_get h ([] : List Int) i h0 h1
  have hc : ∀ j u, c[j]? = some u → w.cell? (ad.add (i.toNat * 1 + j)) = some u := hc0
  obtain ⟨A0, c0, rfl, l0, g0⟩ := hK
  exact ⟨ad, A0, c0, e, by have hq := hc 0 _ rfl; rwa [Nat.mul_one, Nat.add_zero] at hq, l0, g0⟩

/-! #### struct type 29 -/
structure S29 where
  f0 : Int
  f1 : Int
  f2 : ByteArray
def z29 : S29 := ⟨(0 : Int), (0 : Int), (⟨#[]⟩ : ByteArray)⟩
def k29 : Kd S29 := Kd.iso (Kd.pair (Kd.int .i64) (Kd.pair (Kd.int .i64) Kd.string)) (fun x : S29 => (x.f0, x.f1, x.f2))
theorem k29_open {w : World} {x : S29} {cs : List Value} (h : k29.K w x cs) : cs = [.int .i64 x.f0, .int .i64 x.f1, .string x.f2] := by
  obtain ⟨_, _, rfl, rfl, ⟨_, _, rfl, rfl, rfl⟩⟩ := h
  exact rfl
theorem k29_openM {w : World} {base : Nat} {ok : Nat → Prop} {x : S29} {cs : List Value} (h : k29.M w base ok x cs) : cs = [.int .i64 x.f0, .int .i64 x.f1, .string x.f2] := by
  obtain ⟨_, _, rfl, rfl, ⟨_, _, rfl, rfl, rfl⟩⟩ := h
  exact rfl
theorem k29_mk (w : World) (x : S29)  : k29.K w x [.int .i64 x.f0, .int .i64 x.f1, .string x.f2] := ⟨[.int .i64 x.f0], [.int .i64 x.f1, .string x.f2], rfl, rfl, ⟨[.int .i64 x.f1], [.string x.f2], rfl, rfl, rfl⟩⟩
theorem k29_mkM (w : World) (base : Nat) (ok : Nat → Prop) (x : S29)  : k29.M w base ok x [.int .i64 x.f0, .int .i64 x.f1, .string x.f2] := ⟨[.int .i64 x.f0], [.int .i64 x.f1, .string x.f2], rfl, rfl, ⟨[.int .i64 x.f1], [.string x.f2], rfl, rfl, rfl⟩⟩
theorem k29_mkF (W : World) (ok : Nat → Prop) (x : S29) : Kd.FK k29 W ok x [.int .i64 x.f0, .int .i64 x.f1, .string x.f2] := fun W2 _ => k29_mk W2 x
def rd_T29 (xs : List S29) (i : Int) : S29 := xs.getD i.toNat z29
theorem at_T29 {w : World} {A : Option Addr} {n : Nat} {xs : List S29} (h : Kd.C k29 w A n xs) (i : Int) (h0 : 0 ≤ i) (h1 : i < n) : ∃ ad , A = some ad ∧ w.cell? (ad.add (i.toNat * 3)) = some (.int .i64 (rd_T29 xs i).f0) ∧ w.cell? ⟨(ad.add (i.toNat * 3)).block, (ad.add (i.toNat * 3)).off + 1, none⟩ = some (.int .i64 (rd_T29 xs i).f1) ∧ w.cell? ⟨(ad.add (i.toNat * 3)).block, (ad.add (i.toNat * 3)).off + 2, none⟩ = some (.string (rd_T29 xs i).f2) := by
  obtain ⟨ad, c, e, _, hK, hc0⟩ := Kd.C_get h z29 i h0 h1
  have hc : ∀ j u, c[j]? = some u → w.cell? (ad.add (i.toNat * 3 + j)) = some u := hc0
  obtain rfl := k29_open hK
  exact ⟨ad, e, hc 0 _ rfl, by rw [← add_field _ _ 1 (by omega)]; exact hc 1 _ rfl, by rw [← add_field _ _ 2 (by omega)]; exact hc 2 _ rfl⟩

def rd_L4 (xs : List (List S29)) (i : Int) : (List S29) := xs.getD i.toNat ([] : List S29)
theorem at_L4 {w : World} {A : Option Addr} {n : Nat} {xs : List (List S29)} (h : Kd.C (Kd.slice 29 k29) w A n xs) (i : Int) (h0 : 0 ≤ i) (h1 : i < n) : ∃ ad A0 c0, A = some ad ∧ w.cell? (ad.add i.toNat) = some (.slice A0 (rd_L4 xs i).length c0) ∧ (rd_L4 xs i).length ≤ c0 ∧ k29.C w A0 (rd_L4 xs i).length (rd_L4 xs i) := by
  obtain ⟨ad, c, e, _, hK, hc0⟩ := Kd.C_get h ([] : List S29) i h0 h1
  have hc : ∀ j u, c[j]? = some u → w.cell? (ad.add (i.toNat * 1 + j)) = some u := hc0
  obtain ⟨A0, c0, rfl, l0, g0⟩ := hK
  exact ⟨ad, A0, c0, e, by have hq := hc 0 _ rfl; rwa [Nat.mul_one, Nat.add_zero] at hq, l0, g0⟩

/-! #### struct type 32 -/
structure S32 where
  f0 : S29
  f1 : Int
  f2 : S29
  f3 : Int
  f4 : (List S29)
  f5 : (List S29)
  f6 : Int
  f7 : Int
def z32 : S32 := ⟨z29, (0 : Int), z29, (0 : Int), ([] : List S29), ([] : List S29), (0 : Int), (0 : Int)⟩
def k32 : Kd S32 := Kd.iso (Kd.pair k29 (Kd.pair (Kd.int .i64) (Kd.pair k29 (Kd.pair (Kd.int .i64) (Kd.pair (Kd.slice 29 k29) (Kd.pair (Kd.slice 29 k29) (Kd.pair (Kd.int .i64) (Kd.int .i64)))))))) (fun x : S32 => (x.f0, x.f1, x.f2, x.f3, x.f4, x.f5, x.f6, x.f7))
theorem k32_open {w : World} {x : S32} {cs : List Value} (h : k32.K w x cs) : ∃ A8 c8 A9 c9, cs = [.int .i64 x.f0.f0, .int .i64 x.f0.f1, .string x.f0.f2, .int .i64 x.f1, .int .i64 x.f2.f0, .int .i64 x.f2.f1, .string x.f2.f2, .int .i64 x.f3, .slice A8 x.f4.length c8, .slice A9 x.f5.length c9, .int .i64 x.f6, .int .i64 x.f7] ∧ x.f4.length ≤ c8 ∧ k29.C w A8 x.f4.length x.f4 ∧ x.f5.length ≤ c9 ∧ k29.C w A9 x.f5.length x.f5 := by
  obtain ⟨_, _, rfl, s0, ⟨_, _, rfl, rfl, ⟨_, _, rfl, s4, ⟨_, _, rfl, rfl, ⟨_, _, rfl, ⟨A8, c8, rfl, l8, g8⟩, ⟨_, _, rfl, ⟨A9, c9, rfl, l9, g9⟩, ⟨_, _, rfl, rfl, rfl⟩⟩⟩⟩⟩⟩⟩ := h
  obtain rfl := k29_open s0
  obtain rfl := k29_open s4
  exact ⟨A8, c8, A9, c9, rfl, l8, g8, l9, g9⟩
theorem k32_openM {w : World} {base : Nat} {ok : Nat → Prop} {x : S32} {cs : List Value} (h : k32.M w base ok x cs) : ∃ v8 v9, cs = [.int .i64 x.f0.f0, .int .i64 x.f0.f1, .string x.f0.f2, .int .i64 x.f1, .int .i64 x.f2.f0, .int .i64 x.f2.f1, .string x.f2.f2, .int .i64 x.f3, v8, v9, .int .i64 x.f6, .int .i64 x.f7] ∧ k29.R 29 w base ok v8 x.f4 ∧ k29.R 29 w base ok v9 x.f5 := by
  obtain ⟨_, _, rfl, s0, ⟨_, _, rfl, rfl, ⟨_, _, rfl, s4, ⟨_, _, rfl, rfl, ⟨_, _, rfl, ⟨v8, rfl, g8⟩, ⟨_, _, rfl, ⟨v9, rfl, g9⟩, ⟨_, _, rfl, rfl, rfl⟩⟩⟩⟩⟩⟩⟩ := h
  obtain rfl := k29_openM s0
  obtain rfl := k29_openM s4
  exact ⟨v8, v9, rfl, g8, g9⟩
theorem k32_mk (w : World) (x : S32) {A8 : Option Addr} {c8 : Nat} (l8 : x.f4.length ≤ c8) (g8 : k29.C w A8 x.f4.length x.f4) {A9 : Option Addr} {c9 : Nat} (l9 : x.f5.length ≤ c9) (g9 : k29.C w A9 x.f5.length x.f5) : k32.K w x [.int .i64 x.f0.f0, .int .i64 x.f0.f1, .string x.f0.f2, .int .i64 x.f1, .int .i64 x.f2.f0, .int .i64 x.f2.f1, .string x.f2.f2, .int .i64 x.f3, .slice A8 x.f4.length c8, .slice A9 x.f5.length c9, .int .i64 x.f6, .int .i64 x.f7] := ⟨[.int .i64 x.f0.f0, .int .i64 x.f0.f1, .string x.f0.f2], [.int .i64 x.f1, .int .i64 x.f2.f0, .int .i64 x.f2.f1, .string x.f2.f2, .int .i64 x.f3, .slice A8 x.f4.length c8, .slice A9 x.f5.length c9, .int .i64 x.f6, .int .i64 x.f7], rfl, (k29_mk w x.f0 ), ⟨[.int .i64 x.f1], [.int .i64 x.f2.f0, .int .i64 x.f2.f1, .string x.f2.f2, .int .i64 x.f3, .slice A8 x.f4.length c8, .slice A9 x.f5.length c9, .int .i64 x.f6, .int .i64 x.f7], rfl, rfl, ⟨[.int .i64 x.f2.f0, .int .i64 x.f2.f1, .string x.f2.f2], [.int .i64 x.f3, .slice A8 x.f4.length c8, .slice A9 x.f5.length c9, .int .i64 x.f6, .int .i64 x.f7], rfl, (k29_mk w x.f2 ), ⟨[.int .i64 x.f3], [.slice A8 x.f4.length c8, .slice A9 x.f5.length c9, .int .i64 x.f6, .int .i64 x.f7], rfl, rfl, ⟨[.slice A8 x.f4.length c8], [.slice A9 x.f5.length c9, .int .i64 x.f6, .int .i64 x.f7], rfl, ⟨A8, c8, rfl, l8, g8⟩, ⟨[.slice A9 x.f5.length c9], [.int .i64 x.f6, .int .i64 x.f7], rfl, ⟨A9, c9, rfl, l9, g9⟩, ⟨[.int .i64 x.f6], [.int .i64 x.f7], rfl, rfl, rfl⟩⟩⟩⟩⟩⟩⟩
theorem k32_mkM (w : World) (base : Nat) (ok : Nat → Prop) (x : S32) {v8 : Value} (g8 : k29.R 29 w base ok v8 x.f4) {v9 : Value} (g9 : k29.R 29 w base ok v9 x.f5) : k32.M w base ok x [.int .i64 x.f0.f0, .int .i64 x.f0.f1, .string x.f0.f2, .int .i64 x.f1, .int .i64 x.f2.f0, .int .i64 x.f2.f1, .string x.f2.f2, .int .i64 x.f3, v8, v9, .int .i64 x.f6, .int .i64 x.f7] := ⟨[.int .i64 x.f0.f0, .int .i64 x.f0.f1, .string x.f0.f2], [.int .i64 x.f1, .int .i64 x.f2.f0, .int .i64 x.f2.f1, .string x.f2.f2, .int .i64 x.f3, v8, v9, .int .i64 x.f6, .int .i64 x.f7], rfl, (k29_mkM w base ok x.f0 ), ⟨[.int .i64 x.f1], [.int .i64 x.f2.f0, .int .i64 x.f2.f1, .string x.f2.f2, .int .i64 x.f3, v8, v9, .int .i64 x.f6, .int .i64 x.f7], rfl, rfl, ⟨[.int .i64 x.f2.f0, .int .i64 x.f2.f1, .string x.f2.f2], [.int .i64 x.f3, v8, v9, .int .i64 x.f6, .int .i64 x.f7], rfl, (k29_mkM w base ok x.f2 ), ⟨[.int .i64 x.f3], [v8, v9, .int .i64 x.f6, .int .i64 x.f7], rfl, rfl, ⟨[v8], [v9, .int .i64 x.f6, .int .i64 x.f7], rfl, ⟨v8, rfl, g8⟩, ⟨[v9], [.int .i64 x.f6, .int .i64 x.f7], rfl, ⟨v9, rfl, g9⟩, ⟨[.int .i64 x.f6], [.int .i64 x.f7], rfl, rfl, rfl⟩⟩⟩⟩⟩⟩⟩
theorem k32_openF {W : World} {ok : Nat → Prop} {x : S32} {cs : List Value} (h : Kd.FK k32 W ok x cs) : ∃ A8 c8 A9 c9, cs = [.int .i64 x.f0.f0, .int .i64 x.f0.f1, .string x.f0.f2, .int .i64 x.f1, .int .i64 x.f2.f0, .int .i64 x.f2.f1, .string x.f2.f2, .int .i64 x.f3, .slice A8 x.f4.length c8, .slice A9 x.f5.length c9, .int .i64 x.f6, .int .i64 x.f7] ∧ x.f4.length ≤ c8 ∧ Kd.F k29 W ok A8 x.f4.length x.f4 ∧ x.f5.length ≤ c9 ∧ Kd.F k29 W ok A9 x.f5.length x.f5 := by
  obtain ⟨A8, c8, A9, c9, rfl, l8, _, l9, _⟩ := k32_open (Kd.FK_now h)
  exact ⟨A8, c8, A9, c9, rfl, l8, (fun W' hW => by obtain ⟨A8_, c8_, A9_, c9_, he, l8_, g8_, l9_, g9_⟩ := k32_open (h W' hW); injection (Option.some.inj (show some (Value.slice A8 x.f4.length c8) = some (Value.slice A8_ x.f4.length c8_) from congrArg (fun l => l[8]?) he)) with ha_ _ _; rw [ha_]; exact g8_), l9, (fun W' hW => by obtain ⟨A8_, c8_, A9_, c9_, he, l8_, g8_, l9_, g9_⟩ := k32_open (h W' hW); injection (Option.some.inj (show some (Value.slice A9 x.f5.length c9) = some (Value.slice A9_ x.f5.length c9_) from congrArg (fun l => l[9]?) he)) with ha_ _ _; rw [ha_]; exact g9_)⟩
theorem k32_mkF (W : World) (ok : Nat → Prop) (x : S32) {A8 : Option Addr} {c8 : Nat} (l8 : x.f4.length ≤ c8) (g8 : Kd.F k29 W ok A8 x.f4.length x.f4) {A9 : Option Addr} {c9 : Nat} (l9 : x.f5.length ≤ c9) (g9 : Kd.F k29 W ok A9 x.f5.length x.f5) : Kd.FK k32 W ok x [.int .i64 x.f0.f0, .int .i64 x.f0.f1, .string x.f0.f2, .int .i64 x.f1, .int .i64 x.f2.f0, .int .i64 x.f2.f1, .string x.f2.f2, .int .i64 x.f3, .slice A8 x.f4.length c8, .slice A9 x.f5.length c9, .int .i64 x.f6, .int .i64 x.f7] := fun W2 hW => k32_mk W2 x l8 (g8 W2 hW) l9 (g9 W2 hW)
def rd_T32 (xs : List S32) (i : Int) : S32 := xs.getD i.toNat z32
theorem at_T32 {w : World} {A : Option Addr} {n : Nat} {xs : List S32} (h : Kd.C k32 w A n xs) (i : Int) (h0 : 0 ≤ i) (h1 : i < n) : ∃ ad A8 c8 A9 c9, A = some ad ∧ w.cell? (ad.add (i.toNat * 12)) = some (.int .i64 (rd_T32 xs i).f0.f0) ∧ w.cell? ⟨(ad.add (i.toNat * 12)).block, (ad.add (i.toNat * 12)).off + 1, none⟩ = some (.int .i64 (rd_T32 xs i).f0.f1) ∧ w.cell? ⟨(ad.add (i.toNat * 12)).block, (ad.add (i.toNat * 12)).off + 2, none⟩ = some (.string (rd_T32 xs i).f0.f2) ∧ w.cell? ⟨(ad.add (i.toNat * 12)).block, (ad.add (i.toNat * 12)).off + 3, none⟩ = some (.int .i64 (rd_T32 xs i).f1) ∧ w.cell? ⟨(ad.add (i.toNat * 12)).block, (ad.add (i.toNat * 12)).off + 4, none⟩ = some (.int .i64 (rd_T32 xs i).f2.f0) ∧ w.cell? ⟨(ad.add (i.toNat * 12)).block, (ad.add (i.toNat * 12)).off + 5, none⟩ = some (.int .i64 (rd_T32 xs i).f2.f1) ∧ w.cell? ⟨(ad.add (i.toNat * 12)).block, (ad.add (i.toNat * 12)).off + 6, none⟩ = some (.string (rd_T32 xs i).f2.f2) ∧ w.cell? ⟨(ad.add (i.toNat * 12)).block, (ad.add (i.toNat * 12)).off + 7, none⟩ = some (.int .i64 (rd_T32 xs i).f3) ∧ w.cell? ⟨(ad.add (i.toNat * 12)).block, (ad.add (i.toNat * 12)).off + 8, none⟩ = some (.slice A8 (rd_T32 xs i).f4.length c8) ∧ w.cell? ⟨(ad.add (i.toNat * 12)).block, (ad.add (i.toNat * 12)).off + 9, none⟩ = some (.slice A9 (rd_T32 xs i).f5.length c9) ∧ w.cell? ⟨(ad.add (i.toNat * 12)).block, (ad.add (i.toNat * 12)).off + 10, none⟩ = some (.int .i64 (rd_T32 xs i).f6) ∧ w.cell? ⟨(ad.add (i.toNat * 12)).block, (ad.add (i.toNat * 12)).off + 11, none⟩ = some (.int .i64 (rd_T32 xs i).f7) ∧ (rd_T32 xs i).f4.length ≤ c8 ∧ k29.C w A8 (rd_T32 xs i).f4.length (rd_T32 xs i).f4 ∧ (rd_T32 xs i).f5.length ≤ c9 ∧ k29.C w A9 (rd_T32 xs i).f5.length (rd_T32 xs i).f5 := by
  obtain ⟨ad, c, e, _, hK, hc0⟩ := Kd.C_get h z32 i h0 h1
  have hc : ∀ j u, c[j]? = some u → w.cell? (ad.add (i.toNat * 12 + j)) = some u := hc0
  obtain ⟨A8, c8, A9, c9, rfl, l8, g8, l9, g9⟩ := k32_open hK
  exact ⟨ad, A8, c8, A9, c9, e, hc 0 _ rfl, by rw [← add_field _ _ 1 (by omega)]; exact hc 1 _ rfl, by rw [← add_field _ _ 2 (by omega)]; exact hc 2 _ rfl, by rw [← add_field _ _ 3 (by omega)]; exact hc 3 _ rfl, by rw [← add_field _ _ 4 (by omega)]; exact hc 4 _ rfl, by rw [← add_field _ _ 5 (by omega)]; exact hc 5 _ rfl, by rw [← add_field _ _ 6 (by omega)]; exact hc 6 _ rfl, by rw [← add_field _ _ 7 (by omega)]; exact hc 7 _ rfl, by rw [← add_field _ _ 8 (by omega)]; exact hc 8 _ rfl, by rw [← add_field _ _ 9 (by omega)]; exact hc 9 _ rfl, by rw [← add_field _ _ 10 (by omega)]; exact hc 10 _ rfl, by rw [← add_field _ _ 11 (by omega)]; exact hc 11 _ rfl, l8, g8, l9, g9⟩

def rd_L6 (xs : List (List S32)) (i : Int) : (List S32) := xs.getD i.toNat ([] : List S32)
theorem at_L6 {w : World} {A : Option Addr} {n : Nat} {xs : List (List S32)} (h : Kd.C (Kd.slice 32 k32) w A n xs) (i : Int) (h0 : 0 ≤ i) (h1 : i < n) : ∃ ad A0 c0, A = some ad ∧ w.cell? (ad.add i.toNat) = some (.slice A0 (rd_L6 xs i).length c0) ∧ (rd_L6 xs i).length ≤ c0 ∧ k32.C w A0 (rd_L6 xs i).length (rd_L6 xs i) := by
  obtain ⟨ad, c, e, _, hK, hc0⟩ := Kd.C_get h ([] : List S32) i h0 h1
  have hc : ∀ j u, c[j]? = some u → w.cell? (ad.add (i.toNat * 1 + j)) = some u := hc0
  obtain ⟨A0, c0, rfl, l0, g0⟩ := hK
  exact ⟨ad, A0, c0, e, by have hq := hc 0 _ rfl; rwa [Nat.mul_one, Nat.add_zero] at hq, l0, g0⟩

def rd_L7 (xs : List (List (List Int))) (i : Int) : (List (List Int)) := xs.getD i.toNat ([] : List (List Int))
theorem at_L7 {w : World} {A : Option Addr} {n : Nat} {xs : List (List (List Int))} (h : Kd.C (Kd.slice 23 (Kd.slice 3 (Kd.int .i64))) w A n xs) (i : Int) (h0 : 0 ≤ i) (h1 : i < n) : ∃ ad A0 c0, A = some ad ∧ w.cell? (ad.add i.toNat) = some (.slice A0 (rd_L7 xs i).length c0) ∧ (rd_L7 xs i).length ≤ c0 ∧ (Kd.slice 3 (Kd.int .i64)).C w A0 (rd_L7 xs i).length (rd_L7 xs i) := by
  obtain ⟨ad, c, e, _, hK, hc0⟩ := Kd.C_get h ([] : List (List Int)) i h0 h1
  have hc : ∀ j u, c[j]? = some u → w.cell? (ad.add (i.toNat * 1 + j)) = some u := hc0
  obtain ⟨A0, c0, rfl, l0, g0⟩ := hK
  exact ⟨ad, A0, c0, e, by have hq := hc 0 _ rfl; rwa [Nat.mul_one, Nat.add_zero] at hq, l0, g0⟩

end Go.Proofs.Ytbogookhndaeeaa.PP
