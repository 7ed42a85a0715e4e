/-
  DERIVED. GIVEN WITH THE SEED: THE CARDS: each row of YtokcbfklogjnfaaDoorRows.lean that lists a variable, with what it lists TIED to the program's text (the seventh form; the later family's looks); each row that meets fmt, with fmt's text TOLD by the authors' own Lean function (tested against real Go, not proved from fmt's source: count such statements apart). THE CARD IS WHAT COUNTS. Prove the row's statement (the work); the ties are given (YtokcbfklogjnfaaDoorTie.lean); close each card by the builder's one call (the guide's Derived/Test/ToyasCard.lean, 'card_holds'). Laid BY PROGRAM, IN A SANDBOX (cutbox-door.mjs). By AI agents, Wed Nov 11 2026. No macro, syntax, notation, axiom, sorry.
-/
import Derived.Test.YtokcbfklogjnfaaDoorRows
import GoSem.ClaimSeven
namespace Go.Proofs.YtokcbfklogjnfaaDoor
namespace Rows

/-- THE TIED CARD OF 'juratlaw11.FrameWraps'. -/
def frameWrapsCard : Claim7 := { stood := { row := frameWrapsRow, standIns := [], harness := (true, "5e0e99bccd005eab4e415acf74b9155f5c765afc258df1c77adfccc1f74b497e"), looks := false }, kinds := [], alts := [], laidByText := true, laidKinds := [.data, .data, .data, .data], laidTests := true, laidLooks := .later }
def FrameWrapsCardSaid : Prop := Claim7.holds Tryd.pinned (.plain (OpenSpec.ofChange frameWrapsSpec)) frameWrapsCard

/-- THE TIED CARD OF 'juratlaw11.FrameScans'. -/
def frameScansCard : Claim7 := { stood := { row := frameScansRow, standIns := [], harness := (true, "5e0e99bccd005eab4e415acf74b9155f5c765afc258df1c77adfccc1f74b497e"), looks := false }, kinds := [], alts := [], laidByText := true, laidKinds := [.data, .data, .data, .data], laidTests := true, laidLooks := .later }
def FrameScansCardSaid : Prop := Claim7.holds Tryd.pinned (.plain (OpenSpec.ofChange frameScansSpec)) frameScansCard

/-- THE TIED CARD OF 'juratlaw11.FrameBack'. -/
def frameBackCard : Claim7 := { stood := { row := frameBackRow, standIns := [], harness := (true, "5e0e99bccd005eab4e415acf74b9155f5c765afc258df1c77adfccc1f74b497e"), looks := false }, kinds := [], alts := [], laidByText := true, laidKinds := [.data, .data], laidTests := true, laidLooks := .later }
def FrameBackCardSaid : Prop := Claim7.holds Tryd.pinned (.plain (OpenSpec.ofChange frameBackSpec)) frameBackCard

/-- THE TIED CARD OF 'juratlaw11.FrameCuts'. -/
def frameCutsCard : Claim7 := { stood := { row := frameCutsRow, standIns := [], harness := (true, "5e0e99bccd005eab4e415acf74b9155f5c765afc258df1c77adfccc1f74b497e"), looks := false }, kinds := [], alts := [], laidByText := true, laidKinds := [.data, .data], laidTests := true, laidLooks := .later }
def FrameCutsCardSaid : Prop := Claim7.holds Tryd.pinned (.plain (OpenSpec.ofChange frameCutsSpec)) frameCutsCard

/-- THE TIED CARD OF 'juratlaw11.FrameOne'. -/
def frameOneCard : Claim7 := { stood := { row := frameOneRow, standIns := [], harness := (true, "5e0e99bccd005eab4e415acf74b9155f5c765afc258df1c77adfccc1f74b497e"), looks := false }, kinds := [], alts := [], laidByText := true, laidKinds := [.data, .data], laidTests := true, laidLooks := .later }
def FrameOneCardSaid : Prop := Claim7.holds Tryd.pinned (.plain (OpenSpec.ofChange frameOneSpec)) frameOneCard

/-- THE TIED CARD OF 'juratlaw17.TokenChecks'. -/
def tokenChecksCard : Claim7 := { stood := { row := tokenChecksRow, standIns := [], harness := (true, "5e0e99bccd005eab4e415acf74b9155f5c765afc258df1c77adfccc1f74b497e"), looks := false }, kinds := [], alts := [], laidByText := true, laidKinds := [.data, .data, .data, .data], laidTests := true, laidLooks := .later }
def TokenChecksCardSaid : Prop := Claim7.holds Tryd.pinned (.plain (OpenSpec.ofChange tokenChecksSpec)) tokenChecksCard

/-- THE TIED CARD OF 'juratlaw17.TokenBack'. -/
def tokenBackCard : Claim7 := { stood := { row := tokenBackRow, standIns := [], harness := (true, "5e0e99bccd005eab4e415acf74b9155f5c765afc258df1c77adfccc1f74b497e"), looks := false }, kinds := [], alts := [], laidByText := true, laidKinds := [.data, .data], laidTests := true, laidLooks := .later }
def TokenBackCardSaid : Prop := Claim7.holds Tryd.pinned (.plain (OpenSpec.ofChange tokenBackSpec)) tokenBackCard

/-- THE TIED CARD OF 'juratlaw17.TokenCuts'. -/
def tokenCutsCard : Claim7 := { stood := { row := tokenCutsRow, standIns := [], harness := (true, "5e0e99bccd005eab4e415acf74b9155f5c765afc258df1c77adfccc1f74b497e"), looks := false }, kinds := [], alts := [], laidByText := true, laidKinds := [.data, .data], laidTests := true, laidLooks := .later }
def TokenCutsCardSaid : Prop := Claim7.holds Tryd.pinned (.plain (OpenSpec.ofChange tokenCutsSpec)) tokenCutsCard

/-- THE TIED CARD OF 'juratlaw17.TokenApart'. -/
def tokenApartCard : Claim7 := { stood := { row := tokenApartRow, standIns := [], harness := (true, "5e0e99bccd005eab4e415acf74b9155f5c765afc258df1c77adfccc1f74b497e"), looks := false }, kinds := [], alts := [], laidByText := true, laidKinds := [.data, .data], laidTests := true, laidLooks := .later }
def TokenApartCardSaid : Prop := Claim7.holds Tryd.pinned (.plain (OpenSpec.ofChange tokenApartSpec)) tokenApartCard

/-- THE TIED CARD OF 'juratlaw17.TokenMakes'. -/
def tokenMakesCard : Claim7 := { stood := { row := tokenMakesRow, standIns := [], harness := (true, "5e0e99bccd005eab4e415acf74b9155f5c765afc258df1c77adfccc1f74b497e"), looks := false }, kinds := [], alts := [], laidByText := true, laidKinds := [.data, .data, .data, .data], laidTests := true, laidLooks := .later }
def TokenMakesCardSaid : Prop := Claim7.holds Tryd.pinned (.plain (OpenSpec.ofChange tokenMakesSpec)) tokenMakesCard

/-- THE SECOND FORM's CARD OF 'juratlaw11.FrameWraps'. -/
def frameWrapsUptoCard : Claim7 := { stood := { row := frameWrapsUptoRow, standIns := [], harness := (true, "5e0e99bccd005eab4e415acf74b9155f5c765afc258df1c77adfccc1f74b497e"), looks := false }, kinds := [], alts := [], laidByText := true, laidKinds := [.data, .data, .data, .data], laidTests := true, laidLooks := .later }
def FrameWrapsUptoCardSaid : Prop := Claim7.holds Tryd.pinned (.plain (OpenSpec.upto frameWrapsSpec)) frameWrapsUptoCard

/-- THE SECOND FORM's CARD OF 'juratlaw11.FrameScans'. -/
def frameScansUptoCard : Claim7 := { stood := { row := frameScansUptoRow, standIns := [], harness := (true, "5e0e99bccd005eab4e415acf74b9155f5c765afc258df1c77adfccc1f74b497e"), looks := false }, kinds := [], alts := [], laidByText := true, laidKinds := [.data, .data, .data, .data], laidTests := true, laidLooks := .later }
def FrameScansUptoCardSaid : Prop := Claim7.holds Tryd.pinned (.plain (OpenSpec.upto frameScansSpec)) frameScansUptoCard

/-- THE SECOND FORM's CARD OF 'juratlaw11.FrameBack'. -/
def frameBackUptoCard : Claim7 := { stood := { row := frameBackUptoRow, standIns := [], harness := (true, "5e0e99bccd005eab4e415acf74b9155f5c765afc258df1c77adfccc1f74b497e"), looks := false }, kinds := [], alts := [], laidByText := true, laidKinds := [.data, .data], laidTests := true, laidLooks := .later }
def FrameBackUptoCardSaid : Prop := Claim7.holds Tryd.pinned (.plain (OpenSpec.upto frameBackSpec)) frameBackUptoCard

/-- THE SECOND FORM's CARD OF 'juratlaw11.FrameCuts'. -/
def frameCutsUptoCard : Claim7 := { stood := { row := frameCutsUptoRow, standIns := [], harness := (true, "5e0e99bccd005eab4e415acf74b9155f5c765afc258df1c77adfccc1f74b497e"), looks := false }, kinds := [], alts := [], laidByText := true, laidKinds := [.data, .data], laidTests := true, laidLooks := .later }
def FrameCutsUptoCardSaid : Prop := Claim7.holds Tryd.pinned (.plain (OpenSpec.upto frameCutsSpec)) frameCutsUptoCard

/-- THE SECOND FORM's CARD OF 'juratlaw11.FrameOne'. -/
def frameOneUptoCard : Claim7 := { stood := { row := frameOneUptoRow, standIns := [], harness := (true, "5e0e99bccd005eab4e415acf74b9155f5c765afc258df1c77adfccc1f74b497e"), looks := false }, kinds := [], alts := [], laidByText := true, laidKinds := [.data, .data], laidTests := true, laidLooks := .later }
def FrameOneUptoCardSaid : Prop := Claim7.holds Tryd.pinned (.plain (OpenSpec.upto frameOneSpec)) frameOneUptoCard

/-- THE SECOND FORM's CARD OF 'juratlaw17.TokenChecks'. -/
def tokenChecksUptoCard : Claim7 := { stood := { row := tokenChecksUptoRow, standIns := [], harness := (true, "5e0e99bccd005eab4e415acf74b9155f5c765afc258df1c77adfccc1f74b497e"), looks := false }, kinds := [], alts := [], laidByText := true, laidKinds := [.data, .data, .data, .data], laidTests := true, laidLooks := .later }
def TokenChecksUptoCardSaid : Prop := Claim7.holds Tryd.pinned (.plain (OpenSpec.upto tokenChecksSpec)) tokenChecksUptoCard

/-- THE SECOND FORM's CARD OF 'juratlaw17.TokenBack'. -/
def tokenBackUptoCard : Claim7 := { stood := { row := tokenBackUptoRow, standIns := [], harness := (true, "5e0e99bccd005eab4e415acf74b9155f5c765afc258df1c77adfccc1f74b497e"), looks := false }, kinds := [], alts := [], laidByText := true, laidKinds := [.data, .data], laidTests := true, laidLooks := .later }
def TokenBackUptoCardSaid : Prop := Claim7.holds Tryd.pinned (.plain (OpenSpec.upto tokenBackSpec)) tokenBackUptoCard

/-- THE SECOND FORM's CARD OF 'juratlaw17.TokenCuts'. -/
def tokenCutsUptoCard : Claim7 := { stood := { row := tokenCutsUptoRow, standIns := [], harness := (true, "5e0e99bccd005eab4e415acf74b9155f5c765afc258df1c77adfccc1f74b497e"), looks := false }, kinds := [], alts := [], laidByText := true, laidKinds := [.data, .data], laidTests := true, laidLooks := .later }
def TokenCutsUptoCardSaid : Prop := Claim7.holds Tryd.pinned (.plain (OpenSpec.upto tokenCutsSpec)) tokenCutsUptoCard

/-- THE SECOND FORM's CARD OF 'juratlaw17.TokenApart'. -/
def tokenApartUptoCard : Claim7 := { stood := { row := tokenApartUptoRow, standIns := [], harness := (true, "5e0e99bccd005eab4e415acf74b9155f5c765afc258df1c77adfccc1f74b497e"), looks := false }, kinds := [], alts := [], laidByText := true, laidKinds := [.data, .data], laidTests := true, laidLooks := .later }
def TokenApartUptoCardSaid : Prop := Claim7.holds Tryd.pinned (.plain (OpenSpec.upto tokenApartSpec)) tokenApartUptoCard

/-- THE SECOND FORM's CARD OF 'juratlaw17.TokenMakes'. -/
def tokenMakesUptoCard : Claim7 := { stood := { row := tokenMakesUptoRow, standIns := [], harness := (true, "5e0e99bccd005eab4e415acf74b9155f5c765afc258df1c77adfccc1f74b497e"), looks := false }, kinds := [], alts := [], laidByText := true, laidKinds := [.data, .data, .data, .data], laidTests := true, laidLooks := .later }
def TokenMakesUptoCardSaid : Prop := Claim7.holds Tryd.pinned (.plain (OpenSpec.upto tokenMakesSpec)) tokenMakesUptoCard
end Rows
end Go.Proofs.YtokcbfklogjnfaaDoor
