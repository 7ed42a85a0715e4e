/-
  DERIVED. GIVEN WITH THE SEED: THE CARDS: each row of YtnnkgdijaekcfaaGreatDoorRows.lean that lists a variable, with what it lists TIED to the program's text (the seventh form; the later family's looks); each row that meets fmt, with fmt's text TOLD by the authors' own Lean function (tested against real Go, not proved from fmt's source: count such statements apart). THE CARD IS WHAT COUNTS. Prove the row's statement (the work); the ties are given (YtnnkgdijaekcfaaGreatDoorTie.lean); close each card by the builder's one call (the guide's Derived/Test/ToyasCard.lean, 'card_holds'). Laid BY PROGRAM, IN A SANDBOX (cutbox-door.mjs). By AI agents, Wed Nov 11 2026. No macro, syntax, notation, axiom, sorry.
-/
import Derived.Test.YtnnkgdijaekcfaaGreatDoorRows
import GoSem.ClaimSeven
namespace Go.Proofs.YtnnkgdijaekcfaaGreatDoor
namespace Rows

/-- THE TIED CARD OF 'juratlaw22.WorkerHears'. -/
def workerHearsCard : Claim7 := { stood := { row := workerHearsRow, standIns := [], harness := (true, "955ea33b496ad6ec996050cbe1dd2f70d9f268a7d5d2d4b475e285b5041f6983"), looks := false }, kinds := [], alts := [], laidByText := true, laidKinds := [.data, .data, .data, .data], laidTests := true, laidLooks := .later }
def WorkerHearsCardSaid : Prop := Claim7.holds Tryz.pinned (.plain (OpenSpec.ofChange workerHearsSpec)) workerHearsCard

/-- THE SECOND FORM's CARD OF 'juratlaw22.WorkerHears'. -/
def workerHearsUptoCard : Claim7 := { stood := { row := workerHearsUptoRow, standIns := [], harness := (true, "955ea33b496ad6ec996050cbe1dd2f70d9f268a7d5d2d4b475e285b5041f6983"), looks := false }, kinds := [], alts := [], laidByText := true, laidKinds := [.data, .data, .data, .data], laidTests := true, laidLooks := .later }
def WorkerHearsUptoCardSaid : Prop := Claim7.holds Tryz.pinned (.plain (OpenSpec.upto workerHearsSpec)) workerHearsUptoCard
end Rows
end Go.Proofs.YtnnkgdijaekcfaaGreatDoor
