/-
  DERIVED. GIVEN WITH THE SEED: THE CARDS: each row of YtikmmigfdchcpaaDoorRows.lean that lists a variable, with what it lists TIED to the program's text (the seventh form; the later family's looks); each row that meets fmt, with fmt's text TOLD by the authors' own Lean function (tested against real Go, not proved from fmt's source: count such statements apart). THE CARD IS WHAT COUNTS. Prove the row's statement (the work); the ties are given (YtikmmigfdchcpaaDoorTie.lean); close each card by the builder's one call (the guide's Derived/Test/ToyasCard.lean, 'card_holds'). Laid BY PROGRAM, IN A SANDBOX (cutbox-door.mjs). By AI agents, Wed Nov 11 2026. No macro, syntax, notation, axiom, sorry.
-/
import Derived.Test.YtikmmigfdchcpaaDoorRows
import GoSem.ClaimSeven
namespace Go.Proofs.YtikmmigfdchcpaaDoor
namespace Rows

/-- THE TIED CARD OF 'incognitolaw12.PairChecks'. -/
def pairChecksCard : Claim7 := { stood := { row := pairChecksRow, standIns := [], harness := (true, "68a41237d86b20002a41d5cf2a0bcf6d41cc8344640cc5d85d3fd46004798b6d"), looks := false }, kinds := [], alts := [], laidByText := true, laidKinds := [.data, .data], laidTests := true, laidLooks := .later }
def PairChecksCardSaid : Prop := Claim7.holds Tryd.pinned (.plain (OpenSpec.ofChange pairChecksSpec)) pairChecksCard

/-- THE TIED CARD OF 'incognitolaw12.PairOpers'. -/
def pairOpersCard : Claim7 := { stood := { row := pairOpersRow, standIns := [], harness := (true, "68a41237d86b20002a41d5cf2a0bcf6d41cc8344640cc5d85d3fd46004798b6d"), looks := false }, kinds := [], alts := [], laidByText := true, laidKinds := [.data, .data], laidTests := true, laidLooks := .later }
def PairOpersCardSaid : Prop := Claim7.holds Tryd.pinned (.plain (OpenSpec.ofChange pairOpersSpec)) pairOpersCard

/-- THE TIED CARD OF 'incognitolaw12.PairTurns'. -/
def pairTurnsCard : Claim7 := { stood := { row := pairTurnsRow, standIns := [], harness := (true, "68a41237d86b20002a41d5cf2a0bcf6d41cc8344640cc5d85d3fd46004798b6d"), looks := false }, kinds := [], alts := [], laidByText := true, laidKinds := [.data, .data], laidTests := true, laidLooks := .later }
def PairTurnsCardSaid : Prop := Claim7.holds Tryd.pinned (.plain (OpenSpec.ofChange pairTurnsSpec)) pairTurnsCard

/-- THE TIED CARD OF 'incognitolaw12.PairBegins'. -/
def pairBeginsCard : Claim7 := { stood := { row := pairBeginsRow, standIns := [], harness := (true, "68a41237d86b20002a41d5cf2a0bcf6d41cc8344640cc5d85d3fd46004798b6d"), looks := false }, kinds := [], alts := [], laidByText := true, laidKinds := [.data, .data], laidTests := true, laidLooks := .later }
def PairBeginsCardSaid : Prop := Claim7.holds Tryd.pinned (.plain (OpenSpec.ofChange pairBeginsSpec)) pairBeginsCard

/-- THE TIED CARD OF 'incognitolaw12.PairKeeps'. -/
def pairKeepsCard : Claim7 := { stood := { row := pairKeepsRow, standIns := [], harness := (true, "68a41237d86b20002a41d5cf2a0bcf6d41cc8344640cc5d85d3fd46004798b6d"), looks := false }, kinds := [], alts := [], laidByText := true, laidKinds := [.data, .data], laidTests := true, laidLooks := .later }
def PairKeepsCardSaid : Prop := Claim7.holds Tryd.pinned (.plain (OpenSpec.ofChange pairKeepsSpec)) pairKeepsCard

/-- THE SECOND FORM's CARD OF 'incognitolaw12.PairChecks'. -/
def pairChecksUptoCard : Claim7 := { stood := { row := pairChecksUptoRow, standIns := [], harness := (true, "68a41237d86b20002a41d5cf2a0bcf6d41cc8344640cc5d85d3fd46004798b6d"), looks := false }, kinds := [], alts := [], laidByText := true, laidKinds := [.data, .data], laidTests := true, laidLooks := .later }
def PairChecksUptoCardSaid : Prop := Claim7.holds Tryd.pinned (.plain (OpenSpec.upto pairChecksSpec)) pairChecksUptoCard

/-- THE SECOND FORM's CARD OF 'incognitolaw12.PairOpers'. -/
def pairOpersUptoCard : Claim7 := { stood := { row := pairOpersUptoRow, standIns := [], harness := (true, "68a41237d86b20002a41d5cf2a0bcf6d41cc8344640cc5d85d3fd46004798b6d"), looks := false }, kinds := [], alts := [], laidByText := true, laidKinds := [.data, .data], laidTests := true, laidLooks := .later }
def PairOpersUptoCardSaid : Prop := Claim7.holds Tryd.pinned (.plain (OpenSpec.upto pairOpersSpec)) pairOpersUptoCard

/-- THE SECOND FORM's CARD OF 'incognitolaw12.PairTurns'. -/
def pairTurnsUptoCard : Claim7 := { stood := { row := pairTurnsUptoRow, standIns := [], harness := (true, "68a41237d86b20002a41d5cf2a0bcf6d41cc8344640cc5d85d3fd46004798b6d"), looks := false }, kinds := [], alts := [], laidByText := true, laidKinds := [.data, .data], laidTests := true, laidLooks := .later }
def PairTurnsUptoCardSaid : Prop := Claim7.holds Tryd.pinned (.plain (OpenSpec.upto pairTurnsSpec)) pairTurnsUptoCard

/-- THE SECOND FORM's CARD OF 'incognitolaw12.PairBegins'. -/
def pairBeginsUptoCard : Claim7 := { stood := { row := pairBeginsUptoRow, standIns := [], harness := (true, "68a41237d86b20002a41d5cf2a0bcf6d41cc8344640cc5d85d3fd46004798b6d"), looks := false }, kinds := [], alts := [], laidByText := true, laidKinds := [.data, .data], laidTests := true, laidLooks := .later }
def PairBeginsUptoCardSaid : Prop := Claim7.holds Tryd.pinned (.plain (OpenSpec.upto pairBeginsSpec)) pairBeginsUptoCard

/-- THE SECOND FORM's CARD OF 'incognitolaw12.PairKeeps'. -/
def pairKeepsUptoCard : Claim7 := { stood := { row := pairKeepsUptoRow, standIns := [], harness := (true, "68a41237d86b20002a41d5cf2a0bcf6d41cc8344640cc5d85d3fd46004798b6d"), looks := false }, kinds := [], alts := [], laidByText := true, laidKinds := [.data, .data], laidTests := true, laidLooks := .later }
def PairKeepsUptoCardSaid : Prop := Claim7.holds Tryd.pinned (.plain (OpenSpec.upto pairKeepsSpec)) pairKeepsUptoCard
end Rows
end Go.Proofs.YtikmmigfdchcpaaDoor
