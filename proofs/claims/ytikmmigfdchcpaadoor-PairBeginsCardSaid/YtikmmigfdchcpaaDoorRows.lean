/-
  NARROWER THAN 'FOR EVERY INPUT', by the rows' own cells (each row's printed sentence says how): PairChecks: laid · PairOpers: laid · PairTurns: laid · PairBegins: laid · PairKeeps: laid.
  DERIVED. THE GIVEN ROWS OF THIS SEAT. 5 by the template 'for every input the law returns true; each argument reads behind the call as it read before'; 0 by the template 'total and deterministic' (their statements: YtikmmigfdchcpaaDoorTotals.lean).
  GIVEN WITH THE SEED: the statements are not yours to turn. If you find one false, say at which input.
  Laid BY PROGRAM, IN A SANDBOX (cutbox-rows.mjs): the forced cells as the released guide's own fill.sh prints them over the translation d237bcd88e43c44d… (all of the seat's roots in one cut). By AI agents, Wed Nov 11 2026. No macro, syntax, notation, axiom, sorry.
-/
import Derived.Test.YtikmmigfdchcpaaDoorChecked
import GoSem.Claim
import GoSem.ClaimJoined
import GoSem.ClaimMapViews
import Derived.JoinedTies
import Derived.KernelRfl
namespace Go.Proofs.YtikmmigfdchcpaaDoor
/- THE CELL 'sum', in the pinned program and in every row, IS THE sha256 OF THE DUMP (.gsa) THAT YtikmmigfdchcpaaDoorProg.lean LOADS. Nothing in Lean hashes anything: it is a label: what it is worth is what the hold of that sum in a sandbox is worth. -/
noncomputable def Tryd.pinned : Pinned := { name := "ytikmmigfdchcpaadoor", sum := "d237bcd88e43c44d79cec89be86442e9ff36dcaa20248e809634c6b40a97e749", checked := Tryd.checked }
namespace Rows
def none {H : Type} : Left H := { results := [], args := [] }

/- WHAT THE LISTED PACKAGE-LEVEL VARIABLES READ AS WHEN THE CALL BEGINS. Each datum BY PROGRAM (the guide's laid-datum.mjs) off the statement by which the dump's own 'gosem.cut.vars' lays the variable. In a bare row this is a premise. The card (YtikmmigfdchcpaaDoorCards.lean) ties it to the program's text. -/
def laid_incognito_value_yes {H : Type} : DataW H := .agg [.lit (.int .i64 3), .lit (.int .i64 1), .lit (.string [])]
def laid_incognito_value_no {H : Type} : DataW H := .agg [.lit (.int .i64 3), .lit (.int .i64 0), .lit (.string [])]

/-- 'incognitolaw12.PairChecks': WHATEVER THE INPUT: true; the input reads as it did. -/
def pairChecksSpec : ChangeSpec := { name := "pairChecks", fn := fun _ => fun
  | [d] => { results := [.lit (.bool true)], args := [d] }
  | _ => none }
def pairChecksRow : OpenClaim := { program := "ytikmmigfdchcpaadoor", sum := "d237bcd88e43c44d79cec89be86442e9ff36dcaa20248e809634c6b40a97e749", func := "incognito/incognitolaw12.PairChecks", spec := "pairChecks", inPlace := ["internal/bytealg.IndexByteString", "internal/bytealg.IndexString"], unfollowed := true, recurses := true, named := ["incognito/value.yes", "incognito/value.no", "internal/bytealg.MaxLen"], plainKeys := false, apart := false, laid := [("incognito/value.yes", laid_incognito_value_yes), ("incognito/value.no", laid_incognito_value_no)] }
def PairChecksSaid : Prop := pairChecksRow.holds Tryd.pinned (OpenSpec.ofChange pairChecksSpec)

/-- ITS FALSE NEIGHBOUR: 'it returns false'. Refute it at one input. -/
def pairChecksWrong : ChangeSpec := { name := "pairChecks", fn := fun _ => fun
  | [d] => { results := [.lit (.bool false)], args := [d] }
  | _ => none }
def PairChecksWrongFalsely : Prop := pairChecksRow.holds Tryd.pinned (OpenSpec.ofChange pairChecksWrong)

/-- 'incognitolaw12.PairOpers': WHATEVER THE INPUT: true; the input reads as it did. -/
def pairOpersSpec : ChangeSpec := { name := "pairOpers", fn := fun _ => fun
  | [d] => { results := [.lit (.bool true)], args := [d] }
  | _ => none }
def pairOpersRow : OpenClaim := { program := "ytikmmigfdchcpaadoor", sum := "d237bcd88e43c44d79cec89be86442e9ff36dcaa20248e809634c6b40a97e749", func := "incognito/incognitolaw12.PairOpers", spec := "pairOpers", inPlace := ["internal/bytealg.IndexByteString", "internal/bytealg.IndexString"], unfollowed := true, recurses := true, named := ["incognito/value.yes", "incognito/value.no", "internal/bytealg.MaxLen"], plainKeys := false, apart := false, laid := [("incognito/value.yes", laid_incognito_value_yes), ("incognito/value.no", laid_incognito_value_no)] }
def PairOpersSaid : Prop := pairOpersRow.holds Tryd.pinned (OpenSpec.ofChange pairOpersSpec)

/-- ITS FALSE NEIGHBOUR: 'it returns false'. Refute it at one input. -/
def pairOpersWrong : ChangeSpec := { name := "pairOpers", fn := fun _ => fun
  | [d] => { results := [.lit (.bool false)], args := [d] }
  | _ => none }
def PairOpersWrongFalsely : Prop := pairOpersRow.holds Tryd.pinned (OpenSpec.ofChange pairOpersWrong)

/-- 'incognitolaw12.PairTurns': WHATEVER THE INPUT: true; the input reads as it did. -/
def pairTurnsSpec : ChangeSpec := { name := "pairTurns", fn := fun _ => fun
  | [d] => { results := [.lit (.bool true)], args := [d] }
  | _ => none }
def pairTurnsRow : OpenClaim := { program := "ytikmmigfdchcpaadoor", sum := "d237bcd88e43c44d79cec89be86442e9ff36dcaa20248e809634c6b40a97e749", func := "incognito/incognitolaw12.PairTurns", spec := "pairTurns", inPlace := ["internal/bytealg.IndexByteString", "internal/bytealg.IndexString"], unfollowed := true, recurses := true, named := ["incognito/value.yes", "incognito/value.no", "internal/bytealg.MaxLen"], plainKeys := false, apart := false, laid := [("incognito/value.yes", laid_incognito_value_yes), ("incognito/value.no", laid_incognito_value_no)] }
def PairTurnsSaid : Prop := pairTurnsRow.holds Tryd.pinned (OpenSpec.ofChange pairTurnsSpec)

/-- ITS FALSE NEIGHBOUR: 'it returns false'. Refute it at one input. -/
def pairTurnsWrong : ChangeSpec := { name := "pairTurns", fn := fun _ => fun
  | [d] => { results := [.lit (.bool false)], args := [d] }
  | _ => none }
def PairTurnsWrongFalsely : Prop := pairTurnsRow.holds Tryd.pinned (OpenSpec.ofChange pairTurnsWrong)

/-- 'incognitolaw12.PairBegins': WHATEVER THE INPUT: true; the input reads as it did. -/
def pairBeginsSpec : ChangeSpec := { name := "pairBegins", fn := fun _ => fun
  | [d1, d2] => { results := [.lit (.bool true)], args := [d1, d2] }
  | _ => none }
def pairBeginsRow : OpenClaim := { program := "ytikmmigfdchcpaadoor", sum := "d237bcd88e43c44d79cec89be86442e9ff36dcaa20248e809634c6b40a97e749", func := "incognito/incognitolaw12.PairBegins", spec := "pairBegins", inPlace := ["internal/bytealg.IndexByteString", "internal/bytealg.IndexString"], unfollowed := true, recurses := true, named := ["incognito/value.yes", "incognito/value.no", "internal/bytealg.MaxLen"], plainKeys := false, apart := false, laid := [("incognito/value.yes", laid_incognito_value_yes), ("incognito/value.no", laid_incognito_value_no)] }
def PairBeginsSaid : Prop := pairBeginsRow.holds Tryd.pinned (OpenSpec.ofChange pairBeginsSpec)

/-- ITS FALSE NEIGHBOUR: 'it returns false'. Refute it at one input. -/
def pairBeginsWrong : ChangeSpec := { name := "pairBegins", fn := fun _ => fun
  | [d1, d2] => { results := [.lit (.bool false)], args := [d1, d2] }
  | _ => none }
def PairBeginsWrongFalsely : Prop := pairBeginsRow.holds Tryd.pinned (OpenSpec.ofChange pairBeginsWrong)

/-- 'incognitolaw12.PairKeeps': WHATEVER THE INPUT: true; the input reads as it did. -/
def pairKeepsSpec : ChangeSpec := { name := "pairKeeps", fn := fun _ => fun
  | [d] => { results := [.lit (.bool true)], args := [d] }
  | _ => none }
def pairKeepsRow : OpenClaim := { program := "ytikmmigfdchcpaadoor", sum := "d237bcd88e43c44d79cec89be86442e9ff36dcaa20248e809634c6b40a97e749", func := "incognito/incognitolaw12.PairKeeps", spec := "pairKeeps", inPlace := ["internal/bytealg.IndexByteString", "internal/bytealg.IndexString"], unfollowed := true, recurses := true, named := ["incognito/value.yes", "incognito/value.no", "internal/bytealg.MaxLen"], plainKeys := false, apart := false, laid := [("incognito/value.yes", laid_incognito_value_yes), ("incognito/value.no", laid_incognito_value_no)] }
def PairKeepsSaid : Prop := pairKeepsRow.holds Tryd.pinned (OpenSpec.ofChange pairKeepsSpec)

/-- ITS FALSE NEIGHBOUR: 'it returns false'. Refute it at one input. -/
def pairKeepsWrong : ChangeSpec := { name := "pairKeeps", fn := fun _ => fun
  | [d] => { results := [.lit (.bool false)], args := [d] }
  | _ => none }
def PairKeepsWrongFalsely : Prop := pairKeepsRow.holds Tryd.pinned (OpenSpec.ofChange pairKeepsWrong)

/- THE SECOND FORM. 'bulk': how many values and letters a reading holds, each counted each time it is reached (what is shared counts as often as it is met; a slice's spare places count too). A statement '..UptoSaid' is the law's where the arguments, and the package variables that the reading takes, are together of bulk at most 1048576: NARROWER than '..Said'. Prove '..Said' where nothing that the law and all that it calls make is longer than what came in: it says more and counts as full. Else prove '..UptoSaid'. A law counts once. -/
mutual
def uptoBulk {H : Type} : DataW H → Nat
  | .lit (.string bytes) => bytes.length + 1
  | .lit _ => 1
  | .nil => 1
  | .ptr d => uptoBulk d + 1
  | .slice elems spare => uptoBulkAll elems + uptoBulkAll spare + 1
  | .agg parts => uptoBulkAll parts + 1
  | .iface _ d => uptoBulk d + 1
  | .map entries => uptoBulkEntries entries + 1
  | .held _ => 1
def uptoBulkAll {H : Type} : List (DataW H) → Nat
  | [] => 0
  | d :: r => uptoBulk d + uptoBulkAll r
def uptoBulkEntries {H : Type} : List (Lit × DataW H) → Nat
  | [] => 0
  | x :: r => uptoBulkEntry x + uptoBulkEntries r
def uptoBulkEntry {H : Type} : Lit × DataW H → Nat
  | (.string bytes, d) => bytes.length + uptoBulk d + 1
  | (_, d) => uptoBulk d + 1
 end
def uptoSmall : (H : Type) → List (DataW H) → Bool := fun _ ds => decide (uptoBulkAll ds ≤ 1048576)
def OpenSpec.upto (s : _root_.Go.ChangeSpec) : _root_.Go.OpenSpec := { _root_.Go.OpenSpec.ofChange s with cond := some uptoSmall }

/-- 'incognitolaw12.PairChecks', WHERE WHAT IT READS IS OF BULK AT MOST 1048576: true; the input reads as it did. -/
def pairChecksUptoRow : OpenClaim := { program := "ytikmmigfdchcpaadoor", sum := "d237bcd88e43c44d79cec89be86442e9ff36dcaa20248e809634c6b40a97e749", func := "incognito/incognitolaw12.PairChecks", spec := "pairChecks", inPlace := ["internal/bytealg.IndexByteString", "internal/bytealg.IndexString"], unfollowed := true, recurses := true, named := ["incognito/value.yes", "incognito/value.no", "internal/bytealg.MaxLen"], plainKeys := false, apart := false, laid := [("incognito/value.yes", laid_incognito_value_yes), ("incognito/value.no", laid_incognito_value_no)], narrowed := true }
def PairChecksUptoSaid : Prop := pairChecksUptoRow.holds Tryd.pinned (OpenSpec.upto pairChecksSpec)

/-- 'incognitolaw12.PairOpers', WHERE WHAT IT READS IS OF BULK AT MOST 1048576: true; the input reads as it did. -/
def pairOpersUptoRow : OpenClaim := { program := "ytikmmigfdchcpaadoor", sum := "d237bcd88e43c44d79cec89be86442e9ff36dcaa20248e809634c6b40a97e749", func := "incognito/incognitolaw12.PairOpers", spec := "pairOpers", inPlace := ["internal/bytealg.IndexByteString", "internal/bytealg.IndexString"], unfollowed := true, recurses := true, named := ["incognito/value.yes", "incognito/value.no", "internal/bytealg.MaxLen"], plainKeys := false, apart := false, laid := [("incognito/value.yes", laid_incognito_value_yes), ("incognito/value.no", laid_incognito_value_no)], narrowed := true }
def PairOpersUptoSaid : Prop := pairOpersUptoRow.holds Tryd.pinned (OpenSpec.upto pairOpersSpec)

/-- 'incognitolaw12.PairTurns', WHERE WHAT IT READS IS OF BULK AT MOST 1048576: true; the input reads as it did. -/
def pairTurnsUptoRow : OpenClaim := { program := "ytikmmigfdchcpaadoor", sum := "d237bcd88e43c44d79cec89be86442e9ff36dcaa20248e809634c6b40a97e749", func := "incognito/incognitolaw12.PairTurns", spec := "pairTurns", inPlace := ["internal/bytealg.IndexByteString", "internal/bytealg.IndexString"], unfollowed := true, recurses := true, named := ["incognito/value.yes", "incognito/value.no", "internal/bytealg.MaxLen"], plainKeys := false, apart := false, laid := [("incognito/value.yes", laid_incognito_value_yes), ("incognito/value.no", laid_incognito_value_no)], narrowed := true }
def PairTurnsUptoSaid : Prop := pairTurnsUptoRow.holds Tryd.pinned (OpenSpec.upto pairTurnsSpec)

/-- 'incognitolaw12.PairBegins', WHERE WHAT IT READS IS OF BULK AT MOST 1048576: true; the input reads as it did. -/
def pairBeginsUptoRow : OpenClaim := { program := "ytikmmigfdchcpaadoor", sum := "d237bcd88e43c44d79cec89be86442e9ff36dcaa20248e809634c6b40a97e749", func := "incognito/incognitolaw12.PairBegins", spec := "pairBegins", inPlace := ["internal/bytealg.IndexByteString", "internal/bytealg.IndexString"], unfollowed := true, recurses := true, named := ["incognito/value.yes", "incognito/value.no", "internal/bytealg.MaxLen"], plainKeys := false, apart := false, laid := [("incognito/value.yes", laid_incognito_value_yes), ("incognito/value.no", laid_incognito_value_no)], narrowed := true }
def PairBeginsUptoSaid : Prop := pairBeginsUptoRow.holds Tryd.pinned (OpenSpec.upto pairBeginsSpec)

/-- 'incognitolaw12.PairKeeps', WHERE WHAT IT READS IS OF BULK AT MOST 1048576: true; the input reads as it did. -/
def pairKeepsUptoRow : OpenClaim := { program := "ytikmmigfdchcpaadoor", sum := "d237bcd88e43c44d79cec89be86442e9ff36dcaa20248e809634c6b40a97e749", func := "incognito/incognitolaw12.PairKeeps", spec := "pairKeeps", inPlace := ["internal/bytealg.IndexByteString", "internal/bytealg.IndexString"], unfollowed := true, recurses := true, named := ["incognito/value.yes", "incognito/value.no", "internal/bytealg.MaxLen"], plainKeys := false, apart := false, laid := [("incognito/value.yes", laid_incognito_value_yes), ("incognito/value.no", laid_incognito_value_no)], narrowed := true }
def PairKeepsUptoSaid : Prop := pairKeepsUptoRow.holds Tryd.pinned (OpenSpec.upto pairKeepsSpec)

end Rows
end Go.Proofs.YtikmmigfdchcpaaDoor
