/-
  Proved: a part of the proof of the claim's statement (text Q39 of it).
  Conditions: none of ours.
-/
import Derived.Test.YtikmmigfdchcpaaDoorPeQ0
namespace Go.Proofs.YtikmmigfdchcpaaDoor.PP
open Go.RowKit Go.Proofs.YtikmmigfdchcpaaDoorW.PrintWords Go.Proofs.YtikmmigfdchcpaaDoorW.PrintLast Go.Proofs.YtikmmigfdchcpaaDoorW.PrintMore
set_option linter.unusedVariables false
set_option linter.unusedSimpArgs false
def zbq.f (a0 : Int) : Option (ByteArray) := if a0 = 1 then (some (⟨#[114, 101, 103]⟩ : ByteArray)) else (if a0 = 2 then (some (⟨#[99, 97, 115]⟩ : ByteArray)) else (if a0 = 3 then (some (⟨#[115, 101, 116]⟩ : ByteArray)) else (if a0 = 4 then (some (⟨#[109, 97, 112]⟩ : ByteArray)) else (if a0 = 5 then (some (⟨#[102, 105, 102, 111]⟩ : ByteArray)) else (if a0 = 6 then (some (⟨#[115, 116, 97, 99, 107]⟩ : ByteArray)) else (if a0 = 7 then (some (⟨#[108, 111, 99, 107]⟩ : ByteArray)) else (if a0 = 8 then (some (⟨#[99, 111, 117, 110, 116]⟩ : ByteArray)) else (if a0 = 9 then (some (⟨#[109, 97, 120]⟩ : ByteArray)) else (if a0 = 10 then (some (⟨#[111, 109, 97, 112]⟩ : ByteArray)) else (some (⟨#[]⟩ : ByteArray)))))))))))
end Go.Proofs.YtikmmigfdchcpaaDoor.PP
