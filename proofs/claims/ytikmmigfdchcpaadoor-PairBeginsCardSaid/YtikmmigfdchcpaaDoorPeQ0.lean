import Derived.Below
import Derived.Deep.Draws
import Derived.Deep.AppendLies
import Derived.Maps.AppendAt
import Derived.OwnWalk
import Derived.Laws.BytesArg
import Derived.Laws.MakeOwn
import Derived.Laws.OwnMore
import Derived.Deep.OwnRows
import Derived.Tactics
import Derived.Lib.ConvBytes
import Derived.Laws.Slices
import Derived.WalkKit
import Derived.KernelRfl
import Derived.RowKit3
import Derived.Deep.LoopGhost
import Derived.Deep.QuietTactic
import Derived.BigQuiet
import Derived.WideLaws
import Derived.Deep.DeepCutAuto
import Derived.Deep.CutBlock
import Derived.Deep.RegionHeld3
import Derived.Laws.Rows
import Derived.Lib.AppendStr
import Derived.ArgAppend
import Derived.Laws.IdiomCopy
import Derived.OrdersHeld
import Derived.Laws.BitsLemmas
import Derived.RowKit
import Derived.WalkSpells
import Derived.Maps.OwnSet
import Derived.DeepKeys4
import Derived.Lib.Hide
import Derived.Test.YtikmmigfdchcpaaDoorProg
import Derived.Test.YtikmmigfdchcpaaDoorPeWAll
/-
  Proved: a part of the proof of the claim's statement (text Q0 of it).
  Conditions: none of ours.
-/
namespace Go.Proofs.YtikmmigfdchcpaaDoor.PP
open Go.RowKit Go.Proofs.YtikmmigfdchcpaaDoorW.PrintWords Go.Proofs.YtikmmigfdchcpaaDoorW.PrintLast Go.Proofs.YtikmmigfdchcpaaDoorW.PrintMore
set_option linter.unusedVariables false
set_option linter.unusedSimpArgs false
def errW : Option Int → Value
 | none => .nilIface
 | some c => .iface 0 (.int .i64 c)
theorem zao : errW none = .nilIface := rfl
theorem zan (c : Int) : errW (some c) = .iface 0 (.int .i64 c) := rfl
theorem info3 : (Tryd.prog.info? 3).map (fun i => (i.zero, i.size, i.bytes)) = some (some (.int .i64 0), 1, 8) := by kernel_rfl
theorem info38 : (Tryd.prog.info? 38).map (fun i => (i.zero, i.size, i.bytes)) = some (some (.agg #[(.int .i64 0), (.int .i64 0), (.string ⟨#[]⟩)]), 3, 32) := by kernel_rfl
structure S38 where
 f0 : Int
 f1 : Int
 f2 : ByteArray
def z38 : S38 := ⟨(0 : Int), (0 : Int), (⟨#[]⟩ : ByteArray)⟩
def k38 : Kd S38 := Kd.iso (Kd.pair (Kd.int .i64) (Kd.pair (Kd.int .i64) Kd.string)) (fun x : S38 => (x.f0, x.f1, x.f2))
theorem k38_open {w : World} {x : S38} {cs : List Value} (h : k38.K w x cs) : cs = [.int .i64 x.f0, .int .i64 x.f1, .string x.f2] := by
 obtain ⟨_, _, rfl, rfl, ⟨_, _, rfl, rfl, rfl⟩⟩ := h
 exact rfl
theorem k38_mk (w : World) (x : S38)  : k38.K w x [.int .i64 x.f0, .int .i64 x.f1, .string x.f2] := ⟨[.int .i64 x.f0], [.int .i64 x.f1, .string x.f2], rfl, rfl, ⟨[.int .i64 x.f1], [.string x.f2], rfl, rfl, rfl⟩⟩
theorem k38_mkM (w : World) (base : Nat) (ok : Nat → Prop) (x : S38)  : k38.M w base ok x [.int .i64 x.f0, .int .i64 x.f1, .string x.f2] := ⟨[.int .i64 x.f0], [.int .i64 x.f1, .string x.f2], rfl, rfl, ⟨[.int .i64 x.f1], [.string x.f2], rfl, rfl, rfl⟩⟩
def zai (xs : List S38) (i : Int) : S38 := xs.getD i.toNat z38
theorem zcb {w : World} {A : Option Addr} {n : Nat} {xs : List S38} (h : Kd.C k38 w A n xs) (i : Int) (h0 : 0 ≤ i) (h1 : i < n) : ∃ ad , A = some ad ∧ w.cell? (ad.add (i.toNat * 3)) = some (.int .i64 (zai xs i).f0) ∧ w.cell? ⟨(ad.add (i.toNat * 3)).block, (ad.add (i.toNat * 3)).off + 1, none⟩ = some (.int .i64 (zai xs i).f1) ∧ w.cell? ⟨(ad.add (i.toNat * 3)).block, (ad.add (i.toNat * 3)).off + 2, none⟩ = some (.string (zai xs i).f2) := by
 obtain ⟨ad, c, e, _, hK, hc0⟩ := Kd.C_get h z38 i h0 h1
 have hc : ∀ j u, c[j]? = some u → w.cell? (ad.add (i.toNat * 3 + j)) = some u := hc0
 obtain rfl := k38_open hK
 exact ⟨ad, e, hc 0 _ rfl, by rw [← zbg _ _ 1 (by omega)]; exact hc 1 _ rfl, by rw [← zbg _ _ 2 (by omega)]; exact hc 2 _ rfl⟩
structure S78 where
 f0 : Int
 f1 : Int
 f2 : ByteArray
 f3 : Int
 f4 : Bool
def z78 : S78 := ⟨(0 : Int), (0 : Int), (⟨#[]⟩ : ByteArray), (0 : Int), false⟩
def k78 : Kd S78 := Kd.iso (Kd.pair (Kd.int .i64) (Kd.pair (Kd.int .i64) (Kd.pair Kd.string (Kd.pair (Kd.int .i64) Kd.bool)))) (fun x : S78 => (x.f0, x.f1, x.f2, x.f3, x.f4))
theorem k78_open {w : World} {x : S78} {cs : List Value} (h : k78.K w x cs) : cs = [.int .i64 x.f0, .int .i64 x.f1, .string x.f2, .int .i64 x.f3, .bool x.f4] := by
 obtain ⟨_, _, rfl, rfl, ⟨_, _, rfl, rfl, ⟨_, _, rfl, rfl, ⟨_, _, rfl, rfl, rfl⟩⟩⟩⟩ := h
 exact rfl
theorem k78_mkM (w : World) (base : Nat) (ok : Nat → Prop) (x : S78)  : k78.M w base ok x [.int .i64 x.f0, .int .i64 x.f1, .string x.f2, .int .i64 x.f3, .bool x.f4] := ⟨[.int .i64 x.f0], [.int .i64 x.f1, .string x.f2, .int .i64 x.f3, .bool x.f4], rfl, rfl, ⟨[.int .i64 x.f1], [.string x.f2, .int .i64 x.f3, .bool x.f4], rfl, rfl, ⟨[.string x.f2], [.int .i64 x.f3, .bool x.f4], rfl, rfl, ⟨[.int .i64 x.f3], [.bool x.f4], rfl, rfl, rfl⟩⟩⟩⟩
def zbi (xs : List S78) (i : Int) : S78 := xs.getD i.toNat z78
theorem at_T78 {w : World} {A : Option Addr} {n : Nat} {xs : List S78} (h : Kd.C k78 w A n xs) (i : Int) (h0 : 0 ≤ i) (h1 : i < n) : ∃ ad , A = some ad ∧ w.cell? (ad.add (i.toNat * 5)) = some (.int .i64 (zbi xs i).f0) ∧ w.cell? ⟨(ad.add (i.toNat * 5)).block, (ad.add (i.toNat * 5)).off + 1, none⟩ = some (.int .i64 (zbi xs i).f1) ∧ w.cell? ⟨(ad.add (i.toNat * 5)).block, (ad.add (i.toNat * 5)).off + 2, none⟩ = some (.string (zbi xs i).f2) ∧ w.cell? ⟨(ad.add (i.toNat * 5)).block, (ad.add (i.toNat * 5)).off + 3, none⟩ = some (.int .i64 (zbi xs i).f3) ∧ w.cell? ⟨(ad.add (i.toNat * 5)).block, (ad.add (i.toNat * 5)).off + 4, none⟩ = some (.bool (zbi xs i).f4) := by
 obtain ⟨ad, c, e, _, hK, hc0⟩ := Kd.C_get h z78 i h0 h1
 have hc : ∀ j u, c[j]? = some u → w.cell? (ad.add (i.toNat * 5 + j)) = some u := hc0
 obtain rfl := k78_open hK
 exact ⟨ad, e, hc 0 _ rfl, by rw [← zbg _ _ 1 (by omega)]; exact hc 1 _ rfl, by rw [← zbg _ _ 2 (by omega)]; exact hc 2 _ rfl, by rw [← zbg _ _ 3 (by omega)]; exact hc 3 _ rfl, by rw [← zbg _ _ 4 (by omega)]; exact hc 4 _ rfl⟩
structure S47 where
 f0 : Int
 f1 : S38
 f2 : Int
 f3 : Int
 f4 : S38
 f5 : Int
 f6 : (List S38)
 f7 : (List S38)
 f8 : Bool
 f9 : ByteArray
def z47 : S47 := ⟨(0 : Int), z38, (0 : Int), (0 : Int), z38, (0 : Int), ([] : List S38), ([] : List S38), false, (⟨#[]⟩ : ByteArray)⟩
def k47 : Kd S47 := Kd.iso (Kd.pair (Kd.int .i64) (Kd.pair k38 (Kd.pair (Kd.int .i64) (Kd.pair (Kd.int .i64) (Kd.pair k38 (Kd.pair (Kd.int .i64) (Kd.pair (Kd.slice 38 k38) (Kd.pair (Kd.slice 38 k38) (Kd.pair Kd.bool Kd.string))))))))) (fun x : S47 => (x.f0, x.f1, x.f2, x.f3, x.f4, x.f5, x.f6, x.f7, x.f8, x.f9))
theorem k47_open {w : World} {x : S47} {cs : List Value} (h : k47.K w x cs) : ∃ A10 c10 A11 c11, cs = [.int .i64 x.f0, .int .i64 x.f1.f0, .int .i64 x.f1.f1, .string x.f1.f2, .int .i64 x.f2, .int .i64 x.f3, .int .i64 x.f4.f0, .int .i64 x.f4.f1, .string x.f4.f2, .int .i64 x.f5, .slice A10 x.f6.length c10, .slice A11 x.f7.length c11, .bool x.f8, .string x.f9] ∧ x.f6.length ≤ c10 ∧ k38.C w A10 x.f6.length x.f6 ∧ x.f7.length ≤ c11 ∧ k38.C w A11 x.f7.length x.f7 := by
 obtain ⟨_, _, rfl, rfl, ⟨_, _, rfl, s1, ⟨_, _, rfl, rfl, ⟨_, _, rfl, rfl, ⟨_, _, rfl, s6, ⟨_, _, rfl, rfl, ⟨_, _, rfl, ⟨A10, c10, rfl, l10, g10⟩, ⟨_, _, rfl, ⟨A11, c11, rfl, l11, g11⟩, ⟨_, _, rfl, rfl, rfl⟩⟩⟩⟩⟩⟩⟩⟩⟩ := h
 obtain rfl := k38_open s1
 obtain rfl := k38_open s6
 exact ⟨A10, c10, A11, c11, rfl, l10, g10, l11, g11⟩
theorem k47_mk (w : World) (x : S47) {A10 : Option Addr} {c10 : Nat} (l10 : x.f6.length ≤ c10) (g10 : k38.C w A10 x.f6.length x.f6) {A11 : Option Addr} {c11 : Nat} (l11 : x.f7.length ≤ c11) (g11 : k38.C w A11 x.f7.length x.f7) : k47.K w x [.int .i64 x.f0, .int .i64 x.f1.f0, .int .i64 x.f1.f1, .string x.f1.f2, .int .i64 x.f2, .int .i64 x.f3, .int .i64 x.f4.f0, .int .i64 x.f4.f1, .string x.f4.f2, .int .i64 x.f5, .slice A10 x.f6.length c10, .slice A11 x.f7.length c11, .bool x.f8, .string x.f9] := ⟨[.int .i64 x.f0], [.int .i64 x.f1.f0, .int .i64 x.f1.f1, .string x.f1.f2, .int .i64 x.f2, .int .i64 x.f3, .int .i64 x.f4.f0, .int .i64 x.f4.f1, .string x.f4.f2, .int .i64 x.f5, .slice A10 x.f6.length c10, .slice A11 x.f7.length c11, .bool x.f8, .string x.f9], rfl, rfl, ⟨[.int .i64 x.f1.f0, .int .i64 x.f1.f1, .string x.f1.f2], [.int .i64 x.f2, .int .i64 x.f3, .int .i64 x.f4.f0, .int .i64 x.f4.f1, .string x.f4.f2, .int .i64 x.f5, .slice A10 x.f6.length c10, .slice A11 x.f7.length c11, .bool x.f8, .string x.f9], rfl, (k38_mk w x.f1 ), ⟨[.int .i64 x.f2], [.int .i64 x.f3, .int .i64 x.f4.f0, .int .i64 x.f4.f1, .string x.f4.f2, .int .i64 x.f5, .slice A10 x.f6.length c10, .slice A11 x.f7.length c11, .bool x.f8, .string x.f9], rfl, rfl, ⟨[.int .i64 x.f3], [.int .i64 x.f4.f0, .int .i64 x.f4.f1, .string x.f4.f2, .int .i64 x.f5, .slice A10 x.f6.length c10, .slice A11 x.f7.length c11, .bool x.f8, .string x.f9], rfl, rfl, ⟨[.int .i64 x.f4.f0, .int .i64 x.f4.f1, .string x.f4.f2], [.int .i64 x.f5, .slice A10 x.f6.length c10, .slice A11 x.f7.length c11, .bool x.f8, .string x.f9], rfl, (k38_mk w x.f4 ), ⟨[.int .i64 x.f5], [.slice A10 x.f6.length c10, .slice A11 x.f7.length c11, .bool x.f8, .string x.f9], rfl, rfl, ⟨[.slice A10 x.f6.length c10], [.slice A11 x.f7.length c11, .bool x.f8, .string x.f9], rfl, ⟨A10, c10, rfl, l10, g10⟩, ⟨[.slice A11 x.f7.length c11], [.bool x.f8, .string x.f9], rfl, ⟨A11, c11, rfl, l11, g11⟩, ⟨[.bool x.f8], [.string x.f9], rfl, rfl, rfl⟩⟩⟩⟩⟩⟩⟩⟩⟩
def zav (xs : List S47) (i : Int) : S47 := xs.getD i.toNat z47
theorem at_T47 {w : World} {A : Option Addr} {n : Nat} {xs : List S47} (h : Kd.C k47 w A n xs) (i : Int) (h0 : 0 ≤ i) (h1 : i < n) : ∃ ad A10 c10 A11 c11, A = some ad ∧ w.cell? (ad.add (i.toNat * 14)) = some (.int .i64 (zav xs i).f0) ∧ w.cell? ⟨(ad.add (i.toNat * 14)).block, (ad.add (i.toNat * 14)).off + 1, none⟩ = some (.int .i64 (zav xs i).f1.f0) ∧ w.cell? ⟨(ad.add (i.toNat * 14)).block, (ad.add (i.toNat * 14)).off + 2, none⟩ = some (.int .i64 (zav xs i).f1.f1) ∧ w.cell? ⟨(ad.add (i.toNat * 14)).block, (ad.add (i.toNat * 14)).off + 3, none⟩ = some (.string (zav xs i).f1.f2) ∧ w.cell? ⟨(ad.add (i.toNat * 14)).block, (ad.add (i.toNat * 14)).off + 4, none⟩ = some (.int .i64 (zav xs i).f2) ∧ w.cell? ⟨(ad.add (i.toNat * 14)).block, (ad.add (i.toNat * 14)).off + 5, none⟩ = some (.int .i64 (zav xs i).f3) ∧ w.cell? ⟨(ad.add (i.toNat * 14)).block, (ad.add (i.toNat * 14)).off + 6, none⟩ = some (.int .i64 (zav xs i).f4.f0) ∧ w.cell? ⟨(ad.add (i.toNat * 14)).block, (ad.add (i.toNat * 14)).off + 7, none⟩ = some (.int .i64 (zav xs i).f4.f1) ∧ w.cell? ⟨(ad.add (i.toNat * 14)).block, (ad.add (i.toNat * 14)).off + 8, none⟩ = some (.string (zav xs i).f4.f2) ∧ w.cell? ⟨(ad.add (i.toNat * 14)).block, (ad.add (i.toNat * 14)).off + 9, none⟩ = some (.int .i64 (zav xs i).f5) ∧ w.cell? ⟨(ad.add (i.toNat * 14)).block, (ad.add (i.toNat * 14)).off + 10, none⟩ = some (.slice A10 (zav xs i).f6.length c10) ∧ w.cell? ⟨(ad.add (i.toNat * 14)).block, (ad.add (i.toNat * 14)).off + 11, none⟩ = some (.slice A11 (zav xs i).f7.length c11) ∧ w.cell? ⟨(ad.add (i.toNat * 14)).block, (ad.add (i.toNat * 14)).off + 12, none⟩ = some (.bool (zav xs i).f8) ∧ w.cell? ⟨(ad.add (i.toNat * 14)).block, (ad.add (i.toNat * 14)).off + 13, none⟩ = some (.string (zav xs i).f9) ∧ (zav xs i).f6.length ≤ c10 ∧ k38.C w A10 (zav xs i).f6.length (zav xs i).f6 ∧ (zav xs i).f7.length ≤ c11 ∧ k38.C w A11 (zav xs i).f7.length (zav xs i).f7 := by
 obtain ⟨ad, c, e, _, hK, hc0⟩ := Kd.C_get h z47 i h0 h1
 have hc : ∀ j u, c[j]? = some u → w.cell? (ad.add (i.toNat * 14 + j)) = some u := hc0
 obtain ⟨A10, c10, A11, c11, rfl, l10, g10, l11, g11⟩ := k47_open hK
 exact ⟨ad, A10, c10, A11, c11, e, hc 0 _ rfl, by rw [← zbg _ _ 1 (by omega)]; exact hc 1 _ rfl, by rw [← zbg _ _ 2 (by omega)]; exact hc 2 _ rfl, by rw [← zbg _ _ 3 (by omega)]; exact hc 3 _ rfl, by rw [← zbg _ _ 4 (by omega)]; exact hc 4 _ rfl, by rw [← zbg _ _ 5 (by omega)]; exact hc 5 _ rfl, by rw [← zbg _ _ 6 (by omega)]; exact hc 6 _ rfl, by rw [← zbg _ _ 7 (by omega)]; exact hc 7 _ rfl, by rw [← zbg _ _ 8 (by omega)]; exact hc 8 _ rfl, by rw [← zbg _ _ 9 (by omega)]; exact hc 9 _ rfl, by rw [← zbg _ _ 10 (by omega)]; exact hc 10 _ rfl, by rw [← zbg _ _ 11 (by omega)]; exact hc 11 _ rfl, by rw [← zbg _ _ 12 (by omega)]; exact hc 12 _ rfl, by rw [← zbg _ _ 13 (by omega)]; exact hc 13 _ rfl, l10, g10, l11, g11⟩
structure S41 where
 f0 : S38
 f1 : Int
 f2 : S38
 f3 : Int
 f4 : (List S38)
 f5 : (List S38)
 f6 : Int
 f7 : Int
def z41 : S41 := ⟨z38, (0 : Int), z38, (0 : Int), ([] : List S38), ([] : List S38), (0 : Int), (0 : Int)⟩
def k41 : Kd S41 := Kd.iso (Kd.pair k38 (Kd.pair (Kd.int .i64) (Kd.pair k38 (Kd.pair (Kd.int .i64) (Kd.pair (Kd.slice 38 k38) (Kd.pair (Kd.slice 38 k38) (Kd.pair (Kd.int .i64) (Kd.int .i64)))))))) (fun x : S41 => (x.f0, x.f1, x.f2, x.f3, x.f4, x.f5, x.f6, x.f7))
theorem k41_open {w : World} {x : S41} {cs : List Value} (h : k41.K w x cs) : ∃ A8 c8 A9 c9, cs = [.int .i64 x.f0.f0, .int .i64 x.f0.f1, .string x.f0.f2, .int .i64 x.f1, .int .i64 x.f2.f0, .int .i64 x.f2.f1, .string x.f2.f2, .int .i64 x.f3, .slice A8 x.f4.length c8, .slice A9 x.f5.length c9, .int .i64 x.f6, .int .i64 x.f7] ∧ x.f4.length ≤ c8 ∧ k38.C w A8 x.f4.length x.f4 ∧ x.f5.length ≤ c9 ∧ k38.C w A9 x.f5.length x.f5 := by
 obtain ⟨_, _, rfl, s0, ⟨_, _, rfl, rfl, ⟨_, _, rfl, s4, ⟨_, _, rfl, rfl, ⟨_, _, rfl, ⟨A8, c8, rfl, l8, g8⟩, ⟨_, _, rfl, ⟨A9, c9, rfl, l9, g9⟩, ⟨_, _, rfl, rfl, rfl⟩⟩⟩⟩⟩⟩⟩ := h
 obtain rfl := k38_open s0
 obtain rfl := k38_open s4
 exact ⟨A8, c8, A9, c9, rfl, l8, g8, l9, g9⟩
theorem k41_mkM (w : World) (base : Nat) (ok : Nat → Prop) (x : S41) {v8 : Value} (g8 : k38.R 38 w base ok v8 x.f4) {v9 : Value} (g9 : k38.R 38 w base ok v9 x.f5) : k41.M w base ok x [.int .i64 x.f0.f0, .int .i64 x.f0.f1, .string x.f0.f2, .int .i64 x.f1, .int .i64 x.f2.f0, .int .i64 x.f2.f1, .string x.f2.f2, .int .i64 x.f3, v8, v9, .int .i64 x.f6, .int .i64 x.f7] := ⟨[.int .i64 x.f0.f0, .int .i64 x.f0.f1, .string x.f0.f2], [.int .i64 x.f1, .int .i64 x.f2.f0, .int .i64 x.f2.f1, .string x.f2.f2, .int .i64 x.f3, v8, v9, .int .i64 x.f6, .int .i64 x.f7], rfl, (k38_mkM w base ok x.f0 ), ⟨[.int .i64 x.f1], [.int .i64 x.f2.f0, .int .i64 x.f2.f1, .string x.f2.f2, .int .i64 x.f3, v8, v9, .int .i64 x.f6, .int .i64 x.f7], rfl, rfl, ⟨[.int .i64 x.f2.f0, .int .i64 x.f2.f1, .string x.f2.f2], [.int .i64 x.f3, v8, v9, .int .i64 x.f6, .int .i64 x.f7], rfl, (k38_mkM w base ok x.f2 ), ⟨[.int .i64 x.f3], [v8, v9, .int .i64 x.f6, .int .i64 x.f7], rfl, rfl, ⟨[v8], [v9, .int .i64 x.f6, .int .i64 x.f7], rfl, ⟨v8, rfl, g8⟩, ⟨[v9], [.int .i64 x.f6, .int .i64 x.f7], rfl, ⟨v9, rfl, g9⟩, ⟨[.int .i64 x.f6], [.int .i64 x.f7], rfl, rfl, rfl⟩⟩⟩⟩⟩⟩⟩
def zbx (xs : List S41) (i : Int) : S41 := xs.getD i.toNat z41
theorem at_T41 {w : World} {A : Option Addr} {n : Nat} {xs : List S41} (h : Kd.C k41 w A n xs) (i : Int) (h0 : 0 ≤ i) (h1 : i < n) : ∃ ad A8 c8 A9 c9, A = some ad ∧ w.cell? (ad.add (i.toNat * 12)) = some (.int .i64 (zbx xs i).f0.f0) ∧ w.cell? ⟨(ad.add (i.toNat * 12)).block, (ad.add (i.toNat * 12)).off + 1, none⟩ = some (.int .i64 (zbx xs i).f0.f1) ∧ w.cell? ⟨(ad.add (i.toNat * 12)).block, (ad.add (i.toNat * 12)).off + 2, none⟩ = some (.string (zbx xs i).f0.f2) ∧ w.cell? ⟨(ad.add (i.toNat * 12)).block, (ad.add (i.toNat * 12)).off + 3, none⟩ = some (.int .i64 (zbx xs i).f1) ∧ w.cell? ⟨(ad.add (i.toNat * 12)).block, (ad.add (i.toNat * 12)).off + 4, none⟩ = some (.int .i64 (zbx xs i).f2.f0) ∧ w.cell? ⟨(ad.add (i.toNat * 12)).block, (ad.add (i.toNat * 12)).off + 5, none⟩ = some (.int .i64 (zbx xs i).f2.f1) ∧ w.cell? ⟨(ad.add (i.toNat * 12)).block, (ad.add (i.toNat * 12)).off + 6, none⟩ = some (.string (zbx xs i).f2.f2) ∧ w.cell? ⟨(ad.add (i.toNat * 12)).block, (ad.add (i.toNat * 12)).off + 7, none⟩ = some (.int .i64 (zbx xs i).f3) ∧ w.cell? ⟨(ad.add (i.toNat * 12)).block, (ad.add (i.toNat * 12)).off + 8, none⟩ = some (.slice A8 (zbx xs i).f4.length c8) ∧ w.cell? ⟨(ad.add (i.toNat * 12)).block, (ad.add (i.toNat * 12)).off + 9, none⟩ = some (.slice A9 (zbx xs i).f5.length c9) ∧ w.cell? ⟨(ad.add (i.toNat * 12)).block, (ad.add (i.toNat * 12)).off + 10, none⟩ = some (.int .i64 (zbx xs i).f6) ∧ w.cell? ⟨(ad.add (i.toNat * 12)).block, (ad.add (i.toNat * 12)).off + 11, none⟩ = some (.int .i64 (zbx xs i).f7) ∧ (zbx xs i).f4.length ≤ c8 ∧ k38.C w A8 (zbx xs i).f4.length (zbx xs i).f4 ∧ (zbx xs i).f5.length ≤ c9 ∧ k38.C w A9 (zbx xs i).f5.length (zbx xs i).f5 := by
 obtain ⟨ad, c, e, _, hK, hc0⟩ := Kd.C_get h z41 i h0 h1
 have hc : ∀ j u, c[j]? = some u → w.cell? (ad.add (i.toNat * 12 + j)) = some u := hc0
 obtain ⟨A8, c8, A9, c9, rfl, l8, g8, l9, g9⟩ := k41_open hK
 exact ⟨ad, A8, c8, A9, c9, e, hc 0 _ rfl, by rw [← zbg _ _ 1 (by omega)]; exact hc 1 _ rfl, by rw [← zbg _ _ 2 (by omega)]; exact hc 2 _ rfl, by rw [← zbg _ _ 3 (by omega)]; exact hc 3 _ rfl, by rw [← zbg _ _ 4 (by omega)]; exact hc 4 _ rfl, by rw [← zbg _ _ 5 (by omega)]; exact hc 5 _ rfl, by rw [← zbg _ _ 6 (by omega)]; exact hc 6 _ rfl, by rw [← zbg _ _ 7 (by omega)]; exact hc 7 _ rfl, by rw [← zbg _ _ 8 (by omega)]; exact hc 8 _ rfl, by rw [← zbg _ _ 9 (by omega)]; exact hc 9 _ rfl, by rw [← zbg _ _ 10 (by omega)]; exact hc 10 _ rfl, by rw [← zbg _ _ 11 (by omega)]; exact hc 11 _ rfl, l8, g8, l9, g9⟩
theorem cq3 {w : World} {g : Nat} {t : TypeId} {v0 v1 v2 : Value} (h : w.heap[g]? = some (.cells #[v0, v1, v2] t (0, 0))) : w.cell? ⟨g, 0, none⟩ = some v0 ∧ w.cell? ⟨g, 1, none⟩ = some v1 ∧ w.cell? ⟨g, 2, none⟩ = some v2 :=
 ⟨(zae h 0).trans rfl, (zae h 1).trans rfl, (zae h 2).trans rfl⟩
theorem cq5 {w : World} {g : Nat} {t : TypeId} {v0 v1 v2 v3 v4 : Value} (h : w.heap[g]? = some (.cells #[v0, v1, v2, v3, v4] t (0, 0))) : w.cell? ⟨g, 0, none⟩ = some v0 ∧ w.cell? ⟨g, 1, none⟩ = some v1 ∧ w.cell? ⟨g, 2, none⟩ = some v2 ∧ w.cell? ⟨g, 3, none⟩ = some v3 ∧ w.cell? ⟨g, 4, none⟩ = some v4 :=
 ⟨(zae h 0).trans rfl, (zae h 1).trans rfl, (zae h 2).trans rfl, (zae h 3).trans rfl, (zae h 4).trans rfl⟩
theorem cq12 {w : World} {g : Nat} {t : TypeId} {v0 v1 v2 v3 v4 v5 v6 v7 v8 v9 v10 v11 : Value} (h : w.heap[g]? = some (.cells #[v0, v1, v2, v3, v4, v5, v6, v7, v8, v9, v10, v11] t (0, 0))) : w.cell? ⟨g, 0, none⟩ = some v0 ∧ w.cell? ⟨g, 1, none⟩ = some v1 ∧ w.cell? ⟨g, 2, none⟩ = some v2 ∧ w.cell? ⟨g, 3, none⟩ = some v3 ∧ w.cell? ⟨g, 4, none⟩ = some v4 ∧ w.cell? ⟨g, 5, none⟩ = some v5 ∧ w.cell? ⟨g, 6, none⟩ = some v6 ∧ w.cell? ⟨g, 7, none⟩ = some v7 ∧ w.cell? ⟨g, 8, none⟩ = some v8 ∧ w.cell? ⟨g, 9, none⟩ = some v9 ∧ w.cell? ⟨g, 10, none⟩ = some v10 ∧ w.cell? ⟨g, 11, none⟩ = some v11 :=
 ⟨(zae h 0).trans rfl, (zae h 1).trans rfl, (zae h 2).trans rfl, (zae h 3).trans rfl, (zae h 4).trans rfl, (zae h 5).trans rfl, (zae h 6).trans rfl, (zae h 7).trans rfl, (zae h 8).trans rfl, (zae h 9).trans rfl, (zae h 10).trans rfl, (zae h 11).trans rfl⟩
theorem cq14 {w : World} {g : Nat} {t : TypeId} {v0 v1 v2 v3 v4 v5 v6 v7 v8 v9 v10 v11 v12 v13 : Value} (h : w.heap[g]? = some (.cells #[v0, v1, v2, v3, v4, v5, v6, v7, v8, v9, v10, v11, v12, v13] t (0, 0))) : w.cell? ⟨g, 0, none⟩ = some v0 ∧ w.cell? ⟨g, 1, none⟩ = some v1 ∧ w.cell? ⟨g, 2, none⟩ = some v2 ∧ w.cell? ⟨g, 3, none⟩ = some v3 ∧ w.cell? ⟨g, 4, none⟩ = some v4 ∧ w.cell? ⟨g, 5, none⟩ = some v5 ∧ w.cell? ⟨g, 6, none⟩ = some v6 ∧ w.cell? ⟨g, 7, none⟩ = some v7 ∧ w.cell? ⟨g, 8, none⟩ = some v8 ∧ w.cell? ⟨g, 9, none⟩ = some v9 ∧ w.cell? ⟨g, 10, none⟩ = some v10 ∧ w.cell? ⟨g, 11, none⟩ = some v11 ∧ w.cell? ⟨g, 12, none⟩ = some v12 ∧ w.cell? ⟨g, 13, none⟩ = some v13 :=
 ⟨(zae h 0).trans rfl, (zae h 1).trans rfl, (zae h 2).trans rfl, (zae h 3).trans rfl, (zae h 4).trans rfl, (zae h 5).trans rfl, (zae h 6).trans rfl, (zae h 7).trans rfl, (zae h 8).trans rfl, (zae h 9).trans rfl, (zae h 10).trans rfl, (zae h 11).trans rfl, (zae h 12).trans rfl, (zae h 13).trans rfl⟩
theorem fq3 {w : World} {g : Nat} {t : TypeId} {cs : Array Value} (h : w.heap[g]? = some (.cells cs t (0, 0))) : w.frozen? ⟨g, 0, none⟩ = false ∧ w.frozen? ⟨g, 1, none⟩ = false ∧ w.frozen? ⟨g, 2, none⟩ = false :=
 ⟨zah h 0, zah h 1, zah h 2⟩
theorem fq5 {w : World} {g : Nat} {t : TypeId} {cs : Array Value} (h : w.heap[g]? = some (.cells cs t (0, 0))) : w.frozen? ⟨g, 0, none⟩ = false ∧ w.frozen? ⟨g, 1, none⟩ = false ∧ w.frozen? ⟨g, 2, none⟩ = false ∧ w.frozen? ⟨g, 3, none⟩ = false ∧ w.frozen? ⟨g, 4, none⟩ = false :=
 ⟨zah h 0, zah h 1, zah h 2, zah h 3, zah h 4⟩
theorem fq12 {w : World} {g : Nat} {t : TypeId} {cs : Array Value} (h : w.heap[g]? = some (.cells cs t (0, 0))) : w.frozen? ⟨g, 0, none⟩ = false ∧ w.frozen? ⟨g, 1, none⟩ = false ∧ w.frozen? ⟨g, 2, none⟩ = false ∧ w.frozen? ⟨g, 3, none⟩ = false ∧ w.frozen? ⟨g, 4, none⟩ = false ∧ w.frozen? ⟨g, 5, none⟩ = false ∧ w.frozen? ⟨g, 6, none⟩ = false ∧ w.frozen? ⟨g, 7, none⟩ = false ∧ w.frozen? ⟨g, 8, none⟩ = false ∧ w.frozen? ⟨g, 9, none⟩ = false ∧ w.frozen? ⟨g, 10, none⟩ = false ∧ w.frozen? ⟨g, 11, none⟩ = false :=
 ⟨zah h 0, zah h 1, zah h 2, zah h 3, zah h 4, zah h 5, zah h 6, zah h 7, zah h 8, zah h 9, zah h 10, zah h 11⟩
theorem fq14 {w : World} {g : Nat} {t : TypeId} {cs : Array Value} (h : w.heap[g]? = some (.cells cs t (0, 0))) : w.frozen? ⟨g, 0, none⟩ = false ∧ w.frozen? ⟨g, 1, none⟩ = false ∧ w.frozen? ⟨g, 2, none⟩ = false ∧ w.frozen? ⟨g, 3, none⟩ = false ∧ w.frozen? ⟨g, 4, none⟩ = false ∧ w.frozen? ⟨g, 5, none⟩ = false ∧ w.frozen? ⟨g, 6, none⟩ = false ∧ w.frozen? ⟨g, 7, none⟩ = false ∧ w.frozen? ⟨g, 8, none⟩ = false ∧ w.frozen? ⟨g, 9, none⟩ = false ∧ w.frozen? ⟨g, 10, none⟩ = false ∧ w.frozen? ⟨g, 11, none⟩ = false ∧ w.frozen? ⟨g, 12, none⟩ = false ∧ w.frozen? ⟨g, 13, none⟩ = false :=
 ⟨zah h 0, zah h 1, zah h 2, zah h 3, zah h 4, zah h 5, zah h 6, zah h 7, zah h 8, zah h 9, zah h 10, zah h 11, zah h 12, zah h 13⟩
theorem pq3 {w : World} {g : Nat} {t : TypeId} (v0 v1 v2 : Value) {u0 u1 u2 : Value} (h : w.heap[g]? = some (.cells #[v0, v1, v2] t (0, 0))) : (((w.setCell ⟨g, 0, none⟩ u0).setCell ⟨g, 1, none⟩ u1).setCell ⟨g, 2, none⟩ u2).heap[g]? = some (.cells #[u0, u1, u2] t (0, 0)) := by
 refine zaz (cs := #[u0, u1, v2]) ?_ 2 _ rfl
 refine zaz (cs := #[u0, v1, v2]) ?_ 1 _ rfl
 refine zaz (cs := #[v0, v1, v2]) ?_ 0 _ rfl
 exact h
theorem pq5 {w : World} {g : Nat} {t : TypeId} (v0 v1 v2 v3 v4 : Value) {u0 u1 u2 u3 u4 : Value} (h : w.heap[g]? = some (.cells #[v0, v1, v2, v3, v4] t (0, 0))) : (((((w.setCell ⟨g, 0, none⟩ u0).setCell ⟨g, 1, none⟩ u1).setCell ⟨g, 2, none⟩ u2).setCell ⟨g, 3, none⟩ u3).setCell ⟨g, 4, none⟩ u4).heap[g]? = some (.cells #[u0, u1, u2, u3, u4] t (0, 0)) := by
 refine zaz (cs := #[u0, u1, u2, u3, v4]) ?_ 4 _ rfl
 refine zaz (cs := #[u0, u1, u2, v3, v4]) ?_ 3 _ rfl
 refine zaz (cs := #[u0, u1, v2, v3, v4]) ?_ 2 _ rfl
 refine zaz (cs := #[u0, v1, v2, v3, v4]) ?_ 1 _ rfl
 refine zaz (cs := #[v0, v1, v2, v3, v4]) ?_ 0 _ rfl
 exact h
theorem pq14 {w : World} {g : Nat} {t : TypeId} (v0 v1 v2 v3 v4 v5 v6 v7 v8 v9 v10 v11 v12 v13 : Value) {u0 u1 u2 u3 u4 u5 u6 u7 u8 u9 u10 u11 u12 u13 : Value} (h : w.heap[g]? = some (.cells #[v0, v1, v2, v3, v4, v5, v6, v7, v8, v9, v10, v11, v12, v13] t (0, 0))) : ((((((((((((((w.setCell ⟨g, 0, none⟩ u0).setCell ⟨g, 1, none⟩ u1).setCell ⟨g, 2, none⟩ u2).setCell ⟨g, 3, none⟩ u3).setCell ⟨g, 4, none⟩ u4).setCell ⟨g, 5, none⟩ u5).setCell ⟨g, 6, none⟩ u6).setCell ⟨g, 7, none⟩ u7).setCell ⟨g, 8, none⟩ u8).setCell ⟨g, 9, none⟩ u9).setCell ⟨g, 10, none⟩ u10).setCell ⟨g, 11, none⟩ u11).setCell ⟨g, 12, none⟩ u12).setCell ⟨g, 13, none⟩ u13).heap[g]? = some (.cells #[u0, u1, u2, u3, u4, u5, u6, u7, u8, u9, u10, u11, u12, u13] t (0, 0)) := by
 refine zaz (cs := #[u0, u1, u2, u3, u4, u5, u6, u7, u8, u9, u10, u11, u12, v13]) ?_ 13 _ rfl
 refine zaz (cs := #[u0, u1, u2, u3, u4, u5, u6, u7, u8, u9, u10, u11, v12, v13]) ?_ 12 _ rfl
 refine zaz (cs := #[u0, u1, u2, u3, u4, u5, u6, u7, u8, u9, u10, v11, v12, v13]) ?_ 11 _ rfl
 refine zaz (cs := #[u0, u1, u2, u3, u4, u5, u6, u7, u8, u9, v10, v11, v12, v13]) ?_ 10 _ rfl
 refine zaz (cs := #[u0, u1, u2, u3, u4, u5, u6, u7, u8, v9, v10, v11, v12, v13]) ?_ 9 _ rfl
 refine zaz (cs := #[u0, u1, u2, u3, u4, u5, u6, u7, v8, v9, v10, v11, v12, v13]) ?_ 8 _ rfl
 refine zaz (cs := #[u0, u1, u2, u3, u4, u5, u6, v7, v8, v9, v10, v11, v12, v13]) ?_ 7 _ rfl
 refine zaz (cs := #[u0, u1, u2, u3, u4, u5, v6, v7, v8, v9, v10, v11, v12, v13]) ?_ 6 _ rfl
 refine zaz (cs := #[u0, u1, u2, u3, u4, v5, v6, v7, v8, v9, v10, v11, v12, v13]) ?_ 5 _ rfl
 refine zaz (cs := #[u0, u1, u2, u3, v4, v5, v6, v7, v8, v9, v10, v11, v12, v13]) ?_ 4 _ rfl
 refine zaz (cs := #[u0, u1, u2, v3, v4, v5, v6, v7, v8, v9, v10, v11, v12, v13]) ?_ 3 _ rfl
 refine zaz (cs := #[u0, u1, v2, v3, v4, v5, v6, v7, v8, v9, v10, v11, v12, v13]) ?_ 2 _ rfl
 refine zaz (cs := #[u0, v1, v2, v3, v4, v5, v6, v7, v8, v9, v10, v11, v12, v13]) ?_ 1 _ rfl
 refine zaz (cs := #[v0, v1, v2, v3, v4, v5, v6, v7, v8, v9, v10, v11, v12, v13]) ?_ 0 _ rfl
 exact h
end Go.Proofs.YtikmmigfdchcpaaDoor.PP
