/-
  Proved: a part of the proof of the claim's statement (text Q14 of it).
  Conditions: none of ours.
-/
import Derived.Lib.Strings
import Derived.Lib.Slices
import Derived.Lib.Walk
import Derived.Lib.Bytealg
import Derived.Test.YtikmmigfdchcpaaDoorPeQ0
namespace Go.Proofs.YtikmmigfdchcpaaDoor.PP
open Go.RowKit Go.Proofs.YtikmmigfdchcpaaDoorW.PrintWords Go.Proofs.YtikmmigfdchcpaaDoorW.PrintLast Go.Proofs.YtikmmigfdchcpaaDoorW.PrintMore
set_option linter.unusedVariables false
set_option linter.unusedSimpArgs false
set_option maxHeartbeats 1000000 in
set_option maxRecDepth 100000 in
theorem stringslite_IndexByte (s : ByteArray) (c : Int) (w : World) :
  Calls Tryd.prog 58 #[.string s, .int .u8 c] w fun e w' => e = .returned (.int .i64 (Lib.indexByte s.data.toList c.toNat.toUInt8)) ∧ w' = w := by
 go_enter Tryd.func58, Tryd.ntmps58
 go_wp2
 rw [run_callFunc_extern Tryd.func62 (by kernel_rfl) (by kernel_rfl) (by kernel_rfl) (e := Extern.BytealgIndexByte.indexByte) (by kernel_rfl), Lib.run_indexByteString]
 simp only [Result.andThen]
 rw [Oper.upon_value]
 go_wp2
 go_ret
 exact ⟨rfl, rfl⟩
set_option maxHeartbeats 2000000 in
set_option maxRecDepth 100000 in
theorem stringslite_Index_one (s : ByteArray) (c : UInt8) (w : World) :
  Calls Tryd.prog 57 #[.string s, .string ⟨#[c]⟩] w fun e w' => e = .returned (.int .i64 (Lib.indexByte s.data.toList c)) ∧ w' = w := by
 go_enter Tryd.func57, Tryd.ntmps57
 go_wp2_with (go_at_call 58; refine (stringslite_IndexByte _ _ _).mono ?_; rintro e w' ⟨rfl, rfl⟩)
 ·have h : ([c] == s.toList) = true := by assumption
  go_ret
  refine ⟨?_, rfl⟩
  have e : s.data.toList = [c] := by rw [← Lib.toList_data]; exact (beq_iff_eq.1 h).symm
  rw [e]
  simp [Lib.indexByte]
 ·go_ret
  exact ⟨rfl, rfl⟩
set_option maxHeartbeats 1000000 in
theorem strings_Index_one (s : ByteArray) (c : UInt8) (w : World) :
  Calls Tryd.prog 56 #[.string s, .string ⟨#[c]⟩] w fun e w' => e = .returned (.int .i64 (Lib.indexByte s.data.toList c)) ∧ w' = w := by
 go_enter Tryd.func56, Tryd.ntmps56
 go_wp2_with (go_at_call 57; refine (stringslite_Index_one _ _ _).mono ?_; rintro e w' ⟨rfl, rfl⟩)
 go_ret
 exact ⟨rfl, rfl⟩
set_option maxHeartbeats 1000000 in
theorem strings_Contains_one (s : ByteArray) (c : UInt8) (w : World) :
  Calls Tryd.prog 50 #[.string s, .string ⟨#[c]⟩] w fun e w' => e = .returned (.bool (decide (0 ≤ Lib.indexByte s.data.toList c))) ∧ w' = w := by
 go_enter Tryd.func50, Tryd.ntmps50
 go_wp2_with (go_at_call 56; refine (strings_Index_one _ _ _).mono ?_; rintro e w' ⟨rfl, rfl⟩)
 go_ret
 exact ⟨rfl, rfl⟩
def strings_Contains.f (a0 : ByteArray) (a1 : ByteArray) : Option (Bool) := if a1.data.toList = [10] then some (decide (0 ≤ Lib.indexByte a0.data.toList 10)) else none
theorem strings_Contains.calls (a0 : ByteArray) (a1 : ByteArray) (r : Bool) (w : World) (h : strings_Contains.f a0 a1 = some r) :
  Calls Tryd.prog 50 #[.string a0, .string a1] w fun e w' => e = .returned (.bool r) ∧ Below w.heap.size w w' := by
 unfold strings_Contains.f at h
 by_cases c : a1.data.toList = [10]
 ·rw [if_pos c] at h
  obtain rfl := Option.some.inj h
  obtain ⟨⟨l⟩⟩ := a1
  obtain rfl : l = [10] := c
  exact (strings_Contains_one a0 10 w).mono (by rintro e w' ⟨rfl, rfl⟩; exact ⟨rfl, Below.refl _ _⟩)
 ·rw [if_neg c] at h
  cases h
end Go.Proofs.YtikmmigfdchcpaaDoor.PP
