/-
  DERIVED. GIVEN WITH THE SEED: THE CARDS: each row of YthhdilafnfcpbaaDoorRows.lean that lists a variable, with what it lists TIED to the program's text (the seventh form; the later family's looks); each row that meets fmt, with fmt's text TOLD by the authors' own Lean function (tested against real Go, not proved from fmt's source: count such statements apart). THE CARD IS WHAT COUNTS. Prove the row's statement (the work); the ties are given (YthhdilafnfcpbaaDoorTie.lean); close each card by the builder's one call (the guide's Derived/Test/ToyasCard.lean, 'card_holds'). Laid BY PROGRAM, IN A SANDBOX (cutbox-door.mjs). By AI agents, Wed Nov 11 2026. No macro, syntax, notation, axiom, sorry.
-/
import Derived.Test.YthhdilafnfcpbaaDoorRows
import GoSem.ClaimSeven
namespace Go.Proofs.YthhdilafnfcpbaaDoor
namespace Rows

/-- THE TIED CARD OF 'juratlaw12.VaultPlays'. -/
def vaultPlaysCard : Claim7 := { stood := { row := vaultPlaysRow, standIns := [], harness := (true, "1789603e4e0f35c1b099b55f7490655cafe8e71d616bd32ce62901ec32baaf9f"), looks := false }, kinds := [], alts := [], laidByText := true, laidKinds := [.data, .data], laidTests := true, laidLooks := .later }
def VaultPlaysCardSaid : Prop := Claim7.holds Tryd.pinned (.plain (OpenSpec.ofChange vaultPlaysSpec)) vaultPlaysCard

/-- THE TIED CARD OF 'juratlaw12.VaultForged'. -/
def vaultForgedCard : Claim7 := { stood := { row := vaultForgedRow, standIns := [], harness := (true, "1789603e4e0f35c1b099b55f7490655cafe8e71d616bd32ce62901ec32baaf9f"), looks := false }, kinds := [], alts := [], laidByText := true, laidKinds := [.data, .data, .data, .data], laidTests := true, laidLooks := .later }
def VaultForgedCardSaid : Prop := Claim7.holds Tryd.pinned (.plain (OpenSpec.ofChange vaultForgedSpec)) vaultForgedCard

/-- THE TIED CARD OF 'juratlaw12.VaultLong'. -/
def vaultLongCard : Claim7 := { stood := { row := vaultLongRow, standIns := [], harness := (true, "1789603e4e0f35c1b099b55f7490655cafe8e71d616bd32ce62901ec32baaf9f"), looks := false }, kinds := [], alts := [], laidByText := true, laidKinds := [.data, .data], laidTests := true, laidLooks := .later }
def VaultLongCardSaid : Prop := Claim7.holds Tryd.pinned (.plain (OpenSpec.ofChange vaultLongSpec)) vaultLongCard

/-- THE TIED CARD OF 'juratlaw12.VaultOwn'. -/
def vaultOwnCard : Claim7 := { stood := { row := vaultOwnRow, standIns := [], harness := (true, "1789603e4e0f35c1b099b55f7490655cafe8e71d616bd32ce62901ec32baaf9f"), looks := false }, kinds := [], alts := [], laidByText := true, laidKinds := [.data, .data], laidTests := true, laidLooks := .later }
def VaultOwnCardSaid : Prop := Claim7.holds Tryd.pinned (.plain (OpenSpec.ofChange vaultOwnSpec)) vaultOwnCard

/-- THE TIED CARD OF 'juratlaw12.VaultNil'. -/
def vaultNilCard : Claim7 := { stood := { row := vaultNilRow, standIns := [], harness := (true, "1789603e4e0f35c1b099b55f7490655cafe8e71d616bd32ce62901ec32baaf9f"), looks := false }, kinds := [], alts := [], laidByText := true, laidKinds := [.data, .data], laidTests := true, laidLooks := .later }
def VaultNilCardSaid : Prop := Claim7.holds Tryd.pinned (.plain (OpenSpec.ofChange vaultNilSpec)) vaultNilCard

/-- THE TIED CARD OF 'juratlaw12.VaultCrashes'. -/
def vaultCrashesCard : Claim7 := { stood := { row := vaultCrashesRow, standIns := [], harness := (true, "1789603e4e0f35c1b099b55f7490655cafe8e71d616bd32ce62901ec32baaf9f"), looks := false }, kinds := [], alts := [], laidByText := true, laidKinds := [.data, .data], laidTests := true, laidLooks := .later }
def VaultCrashesCardSaid : Prop := Claim7.holds Tryd.pinned (.plain (OpenSpec.ofChange vaultCrashesSpec)) vaultCrashesCard

/-- THE TIED CARD OF 'juratlaw12.VaultTwice'. -/
def vaultTwiceCard : Claim7 := { stood := { row := vaultTwiceRow, standIns := [], harness := (true, "1789603e4e0f35c1b099b55f7490655cafe8e71d616bd32ce62901ec32baaf9f"), looks := false }, kinds := [], alts := [], laidByText := true, laidKinds := [.data, .data], laidTests := true, laidLooks := .later }
def VaultTwiceCardSaid : Prop := Claim7.holds Tryd.pinned (.plain (OpenSpec.ofChange vaultTwiceSpec)) vaultTwiceCard

/-- THE SECOND FORM's CARD OF 'juratlaw12.VaultPlays'. -/
def vaultPlaysUptoCard : Claim7 := { stood := { row := vaultPlaysUptoRow, standIns := [], harness := (true, "1789603e4e0f35c1b099b55f7490655cafe8e71d616bd32ce62901ec32baaf9f"), looks := false }, kinds := [], alts := [], laidByText := true, laidKinds := [.data, .data], laidTests := true, laidLooks := .later }
def VaultPlaysUptoCardSaid : Prop := Claim7.holds Tryd.pinned (.plain (OpenSpec.upto vaultPlaysSpec)) vaultPlaysUptoCard

/-- THE SECOND FORM's CARD OF 'juratlaw12.VaultForged'. -/
def vaultForgedUptoCard : Claim7 := { stood := { row := vaultForgedUptoRow, standIns := [], harness := (true, "1789603e4e0f35c1b099b55f7490655cafe8e71d616bd32ce62901ec32baaf9f"), looks := false }, kinds := [], alts := [], laidByText := true, laidKinds := [.data, .data, .data, .data], laidTests := true, laidLooks := .later }
def VaultForgedUptoCardSaid : Prop := Claim7.holds Tryd.pinned (.plain (OpenSpec.upto vaultForgedSpec)) vaultForgedUptoCard

/-- THE SECOND FORM's CARD OF 'juratlaw12.VaultLong'. -/
def vaultLongUptoCard : Claim7 := { stood := { row := vaultLongUptoRow, standIns := [], harness := (true, "1789603e4e0f35c1b099b55f7490655cafe8e71d616bd32ce62901ec32baaf9f"), looks := false }, kinds := [], alts := [], laidByText := true, laidKinds := [.data, .data], laidTests := true, laidLooks := .later }
def VaultLongUptoCardSaid : Prop := Claim7.holds Tryd.pinned (.plain (OpenSpec.upto vaultLongSpec)) vaultLongUptoCard

/-- THE SECOND FORM's CARD OF 'juratlaw12.VaultOwn'. -/
def vaultOwnUptoCard : Claim7 := { stood := { row := vaultOwnUptoRow, standIns := [], harness := (true, "1789603e4e0f35c1b099b55f7490655cafe8e71d616bd32ce62901ec32baaf9f"), looks := false }, kinds := [], alts := [], laidByText := true, laidKinds := [.data, .data], laidTests := true, laidLooks := .later }
def VaultOwnUptoCardSaid : Prop := Claim7.holds Tryd.pinned (.plain (OpenSpec.upto vaultOwnSpec)) vaultOwnUptoCard

/-- THE SECOND FORM's CARD OF 'juratlaw12.VaultNil'. -/
def vaultNilUptoCard : Claim7 := { stood := { row := vaultNilUptoRow, standIns := [], harness := (true, "1789603e4e0f35c1b099b55f7490655cafe8e71d616bd32ce62901ec32baaf9f"), looks := false }, kinds := [], alts := [], laidByText := true, laidKinds := [.data, .data], laidTests := true, laidLooks := .later }
def VaultNilUptoCardSaid : Prop := Claim7.holds Tryd.pinned (.plain (OpenSpec.upto vaultNilSpec)) vaultNilUptoCard

/-- THE SECOND FORM's CARD OF 'juratlaw12.VaultCrashes'. -/
def vaultCrashesUptoCard : Claim7 := { stood := { row := vaultCrashesUptoRow, standIns := [], harness := (true, "1789603e4e0f35c1b099b55f7490655cafe8e71d616bd32ce62901ec32baaf9f"), looks := false }, kinds := [], alts := [], laidByText := true, laidKinds := [.data, .data], laidTests := true, laidLooks := .later }
def VaultCrashesUptoCardSaid : Prop := Claim7.holds Tryd.pinned (.plain (OpenSpec.upto vaultCrashesSpec)) vaultCrashesUptoCard

/-- THE SECOND FORM's CARD OF 'juratlaw12.VaultTwice'. -/
def vaultTwiceUptoCard : Claim7 := { stood := { row := vaultTwiceUptoRow, standIns := [], harness := (true, "1789603e4e0f35c1b099b55f7490655cafe8e71d616bd32ce62901ec32baaf9f"), looks := false }, kinds := [], alts := [], laidByText := true, laidKinds := [.data, .data], laidTests := true, laidLooks := .later }
def VaultTwiceUptoCardSaid : Prop := Claim7.holds Tryd.pinned (.plain (OpenSpec.upto vaultTwiceSpec)) vaultTwiceUptoCard
end Rows
end Go.Proofs.YthhdilafnfcpbaaDoor
