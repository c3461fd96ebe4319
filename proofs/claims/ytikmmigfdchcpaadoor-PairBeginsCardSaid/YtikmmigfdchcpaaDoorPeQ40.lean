/-
  Proved: a part of the proof of the claim's statement (text Q40 of it).
  Conditions: none of ours.
-/
import Derived.Test.YtikmmigfdchcpaaDoorPeQ0
namespace Go.Proofs.YtikmmigfdchcpaaDoor.PP
open Go.RowKit Go.Proofs.YtikmmigfdchcpaaDoorW.PrintWords Go.Proofs.YtikmmigfdchcpaaDoorW.PrintLast Go.Proofs.YtikmmigfdchcpaaDoorW.PrintMore
set_option linter.unusedVariables false
set_option linter.unusedSimpArgs false
def zbt.f (a0 : Int) : Option (ByteArray) := if a0 = 1 then (some (⟨#[119, 114, 105, 116, 101]⟩ : ByteArray)) else (if a0 = 2 then (some (⟨#[114, 101, 97, 100]⟩ : ByteArray)) else (if a0 = 3 then (some (⟨#[115, 119, 97, 112]⟩ : ByteArray)) else (if a0 = 4 then (some (⟨#[97, 100, 100]⟩ : ByteArray)) else (if a0 = 5 then (some (⟨#[100, 101, 108]⟩ : ByteArray)) else (if a0 = 6 then (some (⟨#[104, 97, 115]⟩ : ByteArray)) else (if a0 = 7 then (some (⟨#[112, 117, 116]⟩ : ByteArray)) else (if a0 = 8 then (some (⟨#[103, 101, 116]⟩ : ByteArray)) else (if a0 = 9 then (some (⟨#[112, 117, 115, 104]⟩ : ByteArray)) else (if a0 = 10 then (some (⟨#[112, 111, 112]⟩ : ByteArray)) else (if a0 = 11 then (some (⟨#[116, 97, 107, 101]⟩ : ByteArray)) else (if a0 = 12 then (some (⟨#[102, 114, 101, 101]⟩ : ByteArray)) else (if a0 = 13 then (some (⟨#[115, 99, 97, 110]⟩ : ByteArray)) else (some (⟨#[]⟩ : ByteArray))))))))))))))
end Go.Proofs.YtikmmigfdchcpaaDoor.PP
