/-
  Proved: a part of the proof of the claim's statement (text WMore of it).
  Conditions: none of ours.
-/
import Derived.Test.YtikmmigfdchcpaaDoorPcWWords
import Derived.Test.YtikmmigfdchcpaaDoorPcWLast
import Derived.Test.YtikmmigfdchcpaaDoorPcWApart
namespace Go.Proofs.YtikmmigfdchcpaaDoorW.PrintMore
open Go.RowKit Go.Proofs.YtikmmigfdchcpaaDoorW.PrintWords
namespace Kd
open Go.Proofs.YtikmmigfdchcpaaDoorW.PrintWords.Kd
end Kd
namespace Kd
open Go.Proofs.YtikmmigfdchcpaaDoorW.PrintWords.Kd
end Kd
end Go.Proofs.YtikmmigfdchcpaaDoorW.PrintMore
namespace Go.Proofs.YtikmmigfdchcpaaDoorW.PrintWords
open Go.RowKit
section
variable {P : Program} {ops : Array Oper} {rest : List Oper} {o : Oper} {a : Act} {Q : Exit → Act → World → Prop} {W : World}
theorem za4 {f : FuncId} {as : Array Operand} {ts : Array TypeId} (_ho : o.op = .call { callee := .value (.func f), args := as, argTypes := ts }) (h : wpList P ops Q (o :: rest) a W) : wpList P ops Q (o :: rest) a W := h
theorem zby {b : Builtin} {xs : Array Operand} {ts : Array TypeId} (_ho : o.op = .call { callee := .builtin b, args := xs, argTypes := ts }) (h : wpList P ops Q (o :: rest) a W) : wpList P ops Q (o :: rest) a W := h
end
namespace Kd
section
variable {α : Type} {d : Kd α} {e base : Nat} {ok : Nat → Prop} {W w1 : World} {v : Value} {xs : List α}
theorem R_grown1 (h : d.R e W base ok v xs) (hE : d.E = []) {row : Option Nat} (hg : W.grownBy w1 row) (hne : row ≠ v.ownBlock) : d.R e w1 base ok v xs :=
 R_mono (R_grown (R_tight hE h) hg (fun _ hk e_ => hne (e_.symm.trans hk))) (fun k hk => h.1 k hk.symm)
end
end Kd
end Go.Proofs.YtikmmigfdchcpaaDoorW.PrintWords
namespace Go.Proofs.YtikmmigfdchcpaaDoorW.PrintWords
open Go.RowKit
namespace Kd
end Kd
end Go.Proofs.YtikmmigfdchcpaaDoorW.PrintWords
