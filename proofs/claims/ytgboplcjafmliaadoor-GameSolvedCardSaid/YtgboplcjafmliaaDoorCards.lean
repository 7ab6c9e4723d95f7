/-
  DERIVED. GIVEN WITH THE SEED: THE CARDS: each row of YtgboplcjafmliaaDoorRows.lean that lists a variable, with what it lists TIED to the program's text (the seventh form; the later family's looks); each row that meets fmt, with fmt's text TOLD by the authors' own Lean function (tested against real Go, not proved from fmt's source: count such statements apart). THE CARD IS WHAT COUNTS. Prove the row's statement (the work); the ties are given (YtgboplcjafmliaaDoorTie.lean); close each card by the builder's one call (the guide's Derived/Test/ToyasCard.lean, 'card_holds'). Laid BY PROGRAM, IN A SANDBOX (cutbox-door.mjs). By AI agents, Wed Nov 11 2026. No macro, syntax, notation, axiom, sorry.
-/
import Derived.Test.YtgboplcjafmliaaDoorRows
import GoSem.ClaimSeven
namespace Go.Proofs.YtgboplcjafmliaaDoor
namespace Rows

/-- THE TIED CARD OF 'deliberationlaw25.GameSolved'. -/
def gameSolvedCard : Claim7 := { stood := { row := gameSolvedRow, standIns := [], harness := (true, "d02a68b50b45f48a34661375fbd6faecf9d38d094a781337fcef00caf95a9c46"), looks := false }, kinds := [], alts := [], laidByText := true, laidKinds := [.data], laidTests := true, laidLooks := .later }
def GameSolvedCardSaid : Prop := Claim7.holds Tryd.pinned (.plain (OpenSpec.ofChange gameSolvedSpec)) gameSolvedCard

/-- THE TIED CARD OF 'deliberationlaw25.GameExhausted'. -/
def gameExhaustedCard : Claim7 := { stood := { row := gameExhaustedRow, standIns := [], harness := (true, "d02a68b50b45f48a34661375fbd6faecf9d38d094a781337fcef00caf95a9c46"), looks := false }, kinds := [], alts := [], laidByText := true, laidKinds := [.data], laidTests := true, laidLooks := .later }
def GameExhaustedCardSaid : Prop := Claim7.holds Tryd.pinned (.plain (OpenSpec.ofChange gameExhaustedSpec)) gameExhaustedCard

/-- THE TIED CARD OF 'deliberationlaw25.GamePlayed'. -/
def gamePlayedCard : Claim7 := { stood := { row := gamePlayedRow, standIns := [], harness := (true, "d02a68b50b45f48a34661375fbd6faecf9d38d094a781337fcef00caf95a9c46"), looks := false }, kinds := [], alts := [], laidByText := true, laidKinds := [.data], laidTests := true, laidLooks := .later }
def GamePlayedCardSaid : Prop := Claim7.holds Tryd.pinned (.plain (OpenSpec.ofChange gamePlayedSpec)) gamePlayedCard

/-- THE SECOND FORM's CARD OF 'deliberationlaw25.GameSolved'. -/
def gameSolvedUptoCard : Claim7 := { stood := { row := gameSolvedUptoRow, standIns := [], harness := (true, "d02a68b50b45f48a34661375fbd6faecf9d38d094a781337fcef00caf95a9c46"), looks := false }, kinds := [], alts := [], laidByText := true, laidKinds := [.data], laidTests := true, laidLooks := .later }
def GameSolvedUptoCardSaid : Prop := Claim7.holds Tryd.pinned (.plain (OpenSpec.upto gameSolvedSpec)) gameSolvedUptoCard

/-- THE SECOND FORM's CARD OF 'deliberationlaw25.GameExhausted'. -/
def gameExhaustedUptoCard : Claim7 := { stood := { row := gameExhaustedUptoRow, standIns := [], harness := (true, "d02a68b50b45f48a34661375fbd6faecf9d38d094a781337fcef00caf95a9c46"), looks := false }, kinds := [], alts := [], laidByText := true, laidKinds := [.data], laidTests := true, laidLooks := .later }
def GameExhaustedUptoCardSaid : Prop := Claim7.holds Tryd.pinned (.plain (OpenSpec.upto gameExhaustedSpec)) gameExhaustedUptoCard

/-- THE SECOND FORM's CARD OF 'deliberationlaw25.GamePlayed'. -/
def gamePlayedUptoCard : Claim7 := { stood := { row := gamePlayedUptoRow, standIns := [], harness := (true, "d02a68b50b45f48a34661375fbd6faecf9d38d094a781337fcef00caf95a9c46"), looks := false }, kinds := [], alts := [], laidByText := true, laidKinds := [.data], laidTests := true, laidLooks := .later }
def GamePlayedUptoCardSaid : Prop := Claim7.holds Tryd.pinned (.plain (OpenSpec.upto gamePlayedSpec)) gamePlayedUptoCard
end Rows
end Go.Proofs.YtgboplcjafmliaaDoor
