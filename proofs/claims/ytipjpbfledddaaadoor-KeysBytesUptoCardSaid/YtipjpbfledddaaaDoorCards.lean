/-
  DERIVED. GIVEN WITH THE SEED: THE CARDS: each row of YtipjpbfledddaaaDoorRows.lean that lists a variable, with what it lists TIED to the program's text (the seventh form; the later family's looks); each row that meets fmt, with fmt's text TOLD by the authors' own Lean function (tested against real Go, not proved from fmt's source: count such statements apart). THE CARD IS WHAT COUNTS. Prove the row's statement (the work); the ties are given (YtipjpbfledddaaaDoorTie.lean); close each card by the builder's one call (the guide's Derived/Test/ToyasCard.lean, 'card_holds'). Laid BY PROGRAM, IN A SANDBOX (cutbox-door.mjs). By AI agents, Wed Nov 11 2026. No macro, syntax, notation, axiom, sorry.
-/
import Derived.Test.YtipjpbfledddaaaDoorRows
import GoSem.ClaimSeven
namespace Go.Proofs.YtipjpbfledddaaaDoor
namespace Rows

/-- THE TIED CARD OF 'juratlaw07.KeysTells'. -/
def keysTellsCard : Claim7 := { stood := { row := keysTellsRow, standIns := [], harness := (true, "5320227abb01d9d555960385d5f07d10d6e103a38171316b4cd86da83120d734"), looks := false }, kinds := [], alts := [], laidByText := true, laidKinds := [.data, .data, .data, .data], laidTests := true, laidLooks := .later }
def KeysTellsCardSaid : Prop := Claim7.holds Tryd.pinned (.plain (OpenSpec.ofChange keysTellsSpec)) keysTellsCard

/-- THE TIED CARD OF 'juratlaw07.KeysMakes'. -/
def keysMakesCard : Claim7 := { stood := { row := keysMakesRow, standIns := [], harness := (true, "5320227abb01d9d555960385d5f07d10d6e103a38171316b4cd86da83120d734"), looks := false }, kinds := [], alts := [], laidByText := true, laidKinds := [.data, .data, .data, .data], laidTests := true, laidLooks := .later }
def KeysMakesCardSaid : Prop := Claim7.holds Tryd.pinned (.plain (OpenSpec.ofChange keysMakesSpec)) keysMakesCard

/-- THE TIED CARD OF 'juratlaw07.KeysBack'. -/
def keysBackCard : Claim7 := { stood := { row := keysBackRow, standIns := [], harness := (true, "5320227abb01d9d555960385d5f07d10d6e103a38171316b4cd86da83120d734"), looks := false }, kinds := [], alts := [], laidByText := true, laidKinds := [.data, .data], laidTests := true, laidLooks := .later }
def KeysBackCardSaid : Prop := Claim7.holds Tryd.pinned (.plain (OpenSpec.ofChange keysBackSpec)) keysBackCard

/-- THE TIED CARD OF 'juratlaw07.KeysOnce'. -/
def keysOnceCard : Claim7 := { stood := { row := keysOnceRow, standIns := [], harness := (true, "5320227abb01d9d555960385d5f07d10d6e103a38171316b4cd86da83120d734"), looks := false }, kinds := [], alts := [], laidByText := true, laidKinds := [.data, .data], laidTests := true, laidLooks := .later }
def KeysOnceCardSaid : Prop := Claim7.holds Tryd.pinned (.plain (OpenSpec.ofChange keysOnceSpec)) keysOnceCard

/-- THE TIED CARD OF 'juratlaw07.KeysSigns'. -/
def keysSignsCard : Claim7 := { stood := { row := keysSignsRow, standIns := [], harness := (true, "5320227abb01d9d555960385d5f07d10d6e103a38171316b4cd86da83120d734"), looks := false }, kinds := [], alts := [], laidByText := true, laidKinds := [.data, .data, .data, .data], laidTests := true, laidLooks := .later }
def KeysSignsCardSaid : Prop := Claim7.holds Tryd.pinned (.plain (OpenSpec.ofChange keysSignsSpec)) keysSignsCard

/-- THE TIED CARD OF 'juratlaw07.KeysNil'. -/
def keysNilCard : Claim7 := { stood := { row := keysNilRow, standIns := [], harness := (true, "5320227abb01d9d555960385d5f07d10d6e103a38171316b4cd86da83120d734"), looks := false }, kinds := [], alts := [], laidByText := true, laidKinds := [.data, .data], laidTests := true, laidLooks := .later }
def KeysNilCardSaid : Prop := Claim7.holds Tryd.pinned (.plain (OpenSpec.ofChange keysNilSpec)) keysNilCard

/-- THE TIED CARD OF 'juratlaw07.KeysBytes'. -/
def keysBytesCard : Claim7 := { stood := { row := keysBytesRow, standIns := [], harness := (true, "5320227abb01d9d555960385d5f07d10d6e103a38171316b4cd86da83120d734"), looks := false }, kinds := [], alts := [], laidByText := true, laidKinds := [.data, .data], laidTests := true, laidLooks := .later }
def KeysBytesCardSaid : Prop := Claim7.holds Tryd.pinned (.plain (OpenSpec.ofChange keysBytesSpec)) keysBytesCard

/-- THE TIED CARD OF 'juratlaw07.KeysThere'. -/
def keysThereCard : Claim7 := { stood := { row := keysThereRow, standIns := [], harness := (true, "5320227abb01d9d555960385d5f07d10d6e103a38171316b4cd86da83120d734"), looks := false }, kinds := [], alts := [], laidByText := true, laidKinds := [.data, .data], laidTests := true, laidLooks := .later }
def KeysThereCardSaid : Prop := Claim7.holds Tryd.pinned (.plain (OpenSpec.ofChange keysThereSpec)) keysThereCard

/-- THE SECOND FORM's CARD OF 'juratlaw07.KeysTells'. -/
def keysTellsUptoCard : Claim7 := { stood := { row := keysTellsUptoRow, standIns := [], harness := (true, "5320227abb01d9d555960385d5f07d10d6e103a38171316b4cd86da83120d734"), looks := false }, kinds := [], alts := [], laidByText := true, laidKinds := [.data, .data, .data, .data], laidTests := true, laidLooks := .later }
def KeysTellsUptoCardSaid : Prop := Claim7.holds Tryd.pinned (.plain (OpenSpec.upto keysTellsSpec)) keysTellsUptoCard

/-- THE SECOND FORM's CARD OF 'juratlaw07.KeysMakes'. -/
def keysMakesUptoCard : Claim7 := { stood := { row := keysMakesUptoRow, standIns := [], harness := (true, "5320227abb01d9d555960385d5f07d10d6e103a38171316b4cd86da83120d734"), looks := false }, kinds := [], alts := [], laidByText := true, laidKinds := [.data, .data, .data, .data], laidTests := true, laidLooks := .later }
def KeysMakesUptoCardSaid : Prop := Claim7.holds Tryd.pinned (.plain (OpenSpec.upto keysMakesSpec)) keysMakesUptoCard

/-- THE SECOND FORM's CARD OF 'juratlaw07.KeysBack'. -/
def keysBackUptoCard : Claim7 := { stood := { row := keysBackUptoRow, standIns := [], harness := (true, "5320227abb01d9d555960385d5f07d10d6e103a38171316b4cd86da83120d734"), looks := false }, kinds := [], alts := [], laidByText := true, laidKinds := [.data, .data], laidTests := true, laidLooks := .later }
def KeysBackUptoCardSaid : Prop := Claim7.holds Tryd.pinned (.plain (OpenSpec.upto keysBackSpec)) keysBackUptoCard

/-- THE SECOND FORM's CARD OF 'juratlaw07.KeysOnce'. -/
def keysOnceUptoCard : Claim7 := { stood := { row := keysOnceUptoRow, standIns := [], harness := (true, "5320227abb01d9d555960385d5f07d10d6e103a38171316b4cd86da83120d734"), looks := false }, kinds := [], alts := [], laidByText := true, laidKinds := [.data, .data], laidTests := true, laidLooks := .later }
def KeysOnceUptoCardSaid : Prop := Claim7.holds Tryd.pinned (.plain (OpenSpec.upto keysOnceSpec)) keysOnceUptoCard

/-- THE SECOND FORM's CARD OF 'juratlaw07.KeysSigns'. -/
def keysSignsUptoCard : Claim7 := { stood := { row := keysSignsUptoRow, standIns := [], harness := (true, "5320227abb01d9d555960385d5f07d10d6e103a38171316b4cd86da83120d734"), looks := false }, kinds := [], alts := [], laidByText := true, laidKinds := [.data, .data, .data, .data], laidTests := true, laidLooks := .later }
def KeysSignsUptoCardSaid : Prop := Claim7.holds Tryd.pinned (.plain (OpenSpec.upto keysSignsSpec)) keysSignsUptoCard

/-- THE SECOND FORM's CARD OF 'juratlaw07.KeysNil'. -/
def keysNilUptoCard : Claim7 := { stood := { row := keysNilUptoRow, standIns := [], harness := (true, "5320227abb01d9d555960385d5f07d10d6e103a38171316b4cd86da83120d734"), looks := false }, kinds := [], alts := [], laidByText := true, laidKinds := [.data, .data], laidTests := true, laidLooks := .later }
def KeysNilUptoCardSaid : Prop := Claim7.holds Tryd.pinned (.plain (OpenSpec.upto keysNilSpec)) keysNilUptoCard

/-- THE SECOND FORM's CARD OF 'juratlaw07.KeysBytes'. -/
def keysBytesUptoCard : Claim7 := { stood := { row := keysBytesUptoRow, standIns := [], harness := (true, "5320227abb01d9d555960385d5f07d10d6e103a38171316b4cd86da83120d734"), looks := false }, kinds := [], alts := [], laidByText := true, laidKinds := [.data, .data], laidTests := true, laidLooks := .later }
def KeysBytesUptoCardSaid : Prop := Claim7.holds Tryd.pinned (.plain (OpenSpec.upto keysBytesSpec)) keysBytesUptoCard

/-- THE SECOND FORM's CARD OF 'juratlaw07.KeysThere'. -/
def keysThereUptoCard : Claim7 := { stood := { row := keysThereUptoRow, standIns := [], harness := (true, "5320227abb01d9d555960385d5f07d10d6e103a38171316b4cd86da83120d734"), looks := false }, kinds := [], alts := [], laidByText := true, laidKinds := [.data, .data], laidTests := true, laidLooks := .later }
def KeysThereUptoCardSaid : Prop := Claim7.holds Tryd.pinned (.plain (OpenSpec.upto keysThereSpec)) keysThereUptoCard
end Rows
end Go.Proofs.YtipjpbfledddaaaDoor
