/-
  DERIVED. GIVEN WITH THE SEED: THE CARDS: each row of YtommjkbbgmkdoaaDoorRows.lean that lists a variable, with what it lists TIED to the program's text (the seventh form; the later family's looks); each row that meets fmt, with fmt's text TOLD by the authors' own Lean function (tested against real Go, not proved from fmt's source: count such statements apart). THE CARD IS WHAT COUNTS. Prove the row's statement (the work); the ties are given (YtommjkbbgmkdoaaDoorTie.lean); close each card by the builder's one call (the guide's Derived/Test/ToyasCard.lean, 'card_holds'). Laid BY PROGRAM, IN A SANDBOX (cutbox-door.mjs). By AI agents, Wed Nov 11 2026. No macro, syntax, notation, axiom, sorry.
-/
import Derived.Test.YtommjkbbgmkdoaaDoorRows
import GoSem.ClaimSeven
namespace Go.Proofs.YtommjkbbgmkdoaaDoor
namespace Rows

/-- THE TIED CARD OF 'juratlaw06.TreeRoots'. -/
def treeRootsCard : Claim7 := { stood := { row := treeRootsRow, standIns := [], harness := (true, "e0e9c13306328e0d9632e664d63282a7a3434f511fdafcd852feedd12a7c468c"), looks := false }, kinds := [], alts := [], laidByText := true, laidKinds := [.data, .data, .data, .data], laidTests := true, laidLooks := .later }
def TreeRootsCardSaid : Prop := Claim7.holds Tryd.pinned (.plain (OpenSpec.ofChange treeRootsSpec)) treeRootsCard

/-- THE TIED CARD OF 'juratlaw06.TreeHalves'. -/
def treeHalvesCard : Claim7 := { stood := { row := treeHalvesRow, standIns := [], harness := (true, "e0e9c13306328e0d9632e664d63282a7a3434f511fdafcd852feedd12a7c468c"), looks := false }, kinds := [], alts := [], laidByText := true, laidKinds := [.data, .data], laidTests := true, laidLooks := .later }
def TreeHalvesCardSaid : Prop := Claim7.holds Tryd.pinned (.plain (OpenSpec.ofChange treeHalvesSpec)) treeHalvesCard

/-- THE TIED CARD OF 'juratlaw06.TreePaths'. -/
def treePathsCard : Claim7 := { stood := { row := treePathsRow, standIns := [], harness := (true, "e0e9c13306328e0d9632e664d63282a7a3434f511fdafcd852feedd12a7c468c"), looks := false }, kinds := [], alts := [], laidByText := true, laidKinds := [.data, .data, .data, .data], laidTests := true, laidLooks := .later }
def TreePathsCardSaid : Prop := Claim7.holds Tryd.pinned (.plain (OpenSpec.ofChange treePathsSpec)) treePathsCard

/-- THE TIED CARD OF 'juratlaw06.TreeClimbs'. -/
def treeClimbsCard : Claim7 := { stood := { row := treeClimbsRow, standIns := [], harness := (true, "e0e9c13306328e0d9632e664d63282a7a3434f511fdafcd852feedd12a7c468c"), looks := false }, kinds := [], alts := [], laidByText := true, laidKinds := [.data, .data, .data, .data], laidTests := true, laidLooks := .later }
def TreeClimbsCardSaid : Prop := Claim7.holds Tryd.pinned (.plain (OpenSpec.ofChange treeClimbsSpec)) treeClimbsCard

/-- THE TIED CARD OF 'juratlaw06.TreeParts'. -/
def treePartsCard : Claim7 := { stood := { row := treePartsRow, standIns := [], harness := (true, "e0e9c13306328e0d9632e664d63282a7a3434f511fdafcd852feedd12a7c468c"), looks := false }, kinds := [], alts := [], laidByText := true, laidKinds := [.data, .data], laidTests := true, laidLooks := .later }
def TreePartsCardSaid : Prop := Claim7.holds Tryd.pinned (.plain (OpenSpec.ofChange treePartsSpec)) treePartsCard

/-- THE TIED CARD OF 'juratlaw06.TreeBack'. -/
def treeBackCard : Claim7 := { stood := { row := treeBackRow, standIns := [], harness := (true, "e0e9c13306328e0d9632e664d63282a7a3434f511fdafcd852feedd12a7c468c"), looks := false }, kinds := [], alts := [], laidByText := true, laidKinds := [.data, .data], laidTests := true, laidLooks := .later }
def TreeBackCardSaid : Prop := Claim7.holds Tryd.pinned (.plain (OpenSpec.ofChange treeBackSpec)) treeBackCard

/-- THE TIED CARD OF 'juratlaw05.OtsMakes'. -/
def otsMakesCard : Claim7 := { stood := { row := otsMakesRow, standIns := [], harness := (true, "e0e9c13306328e0d9632e664d63282a7a3434f511fdafcd852feedd12a7c468c"), looks := false }, kinds := [], alts := [], laidByText := true, laidKinds := [.data, .data, .data, .data], laidTests := true, laidLooks := .later }
def OtsMakesCardSaid : Prop := Claim7.holds Tryd.pinned (.plain (OpenSpec.ofChange otsMakesSpec)) otsMakesCard

/-- THE TIED CARD OF 'juratlaw05.OtsSigns'. -/
def otsSignsCard : Claim7 := { stood := { row := otsSignsRow, standIns := [], harness := (true, "e0e9c13306328e0d9632e664d63282a7a3434f511fdafcd852feedd12a7c468c"), looks := false }, kinds := [], alts := [], laidByText := true, laidKinds := [.data, .data, .data, .data], laidTests := true, laidLooks := .later }
def OtsSignsCardSaid : Prop := Claim7.holds Tryd.pinned (.plain (OpenSpec.ofChange otsSignsSpec)) otsSignsCard

/-- THE TIED CARD OF 'juratlaw05.OtsBack'. -/
def otsBackCard : Claim7 := { stood := { row := otsBackRow, standIns := [], harness := (true, "e0e9c13306328e0d9632e664d63282a7a3434f511fdafcd852feedd12a7c468c"), looks := false }, kinds := [], alts := [], laidByText := true, laidKinds := [.data, .data], laidTests := true, laidLooks := .later }
def OtsBackCardSaid : Prop := Claim7.holds Tryd.pinned (.plain (OpenSpec.ofChange otsBackSpec)) otsBackCard

/-- THE TIED CARD OF 'juratlaw05.OtsTells'. -/
def otsTellsCard : Claim7 := { stood := { row := otsTellsRow, standIns := [], harness := (true, "e0e9c13306328e0d9632e664d63282a7a3434f511fdafcd852feedd12a7c468c"), looks := false }, kinds := [], alts := [], laidByText := true, laidKinds := [.data, .data, .data, .data], laidTests := true, laidLooks := .later }
def OtsTellsCardSaid : Prop := Claim7.holds Tryd.pinned (.plain (OpenSpec.ofChange otsTellsSpec)) otsTellsCard

/-- THE TIED CARD OF 'juratlaw05.OtsShows'. -/
def otsShowsCard : Claim7 := { stood := { row := otsShowsRow, standIns := [], harness := (true, "e0e9c13306328e0d9632e664d63282a7a3434f511fdafcd852feedd12a7c468c"), looks := false }, kinds := [], alts := [], laidByText := true, laidKinds := [.data, .data, .data, .data], laidTests := true, laidLooks := .later }
def OtsShowsCardSaid : Prop := Claim7.holds Tryd.pinned (.plain (OpenSpec.ofChange otsShowsSpec)) otsShowsCard

/-- THE TIED CARD OF 'juratlaw05.OtsBits'. -/
def otsBitsCard : Claim7 := { stood := { row := otsBitsRow, standIns := [], harness := (true, "e0e9c13306328e0d9632e664d63282a7a3434f511fdafcd852feedd12a7c468c"), looks := false }, kinds := [], alts := [], laidByText := true, laidKinds := [.data, .data, .data, .data], laidTests := true, laidLooks := .later }
def OtsBitsCardSaid : Prop := Claim7.holds Tryd.pinned (.plain (OpenSpec.ofChange otsBitsSpec)) otsBitsCard

/-- THE SECOND FORM's CARD OF 'juratlaw06.TreeRoots'. -/
def treeRootsUptoCard : Claim7 := { stood := { row := treeRootsUptoRow, standIns := [], harness := (true, "e0e9c13306328e0d9632e664d63282a7a3434f511fdafcd852feedd12a7c468c"), looks := false }, kinds := [], alts := [], laidByText := true, laidKinds := [.data, .data, .data, .data], laidTests := true, laidLooks := .later }
def TreeRootsUptoCardSaid : Prop := Claim7.holds Tryd.pinned (.plain (OpenSpec.upto treeRootsSpec)) treeRootsUptoCard

/-- THE SECOND FORM's CARD OF 'juratlaw06.TreeHalves'. -/
def treeHalvesUptoCard : Claim7 := { stood := { row := treeHalvesUptoRow, standIns := [], harness := (true, "e0e9c13306328e0d9632e664d63282a7a3434f511fdafcd852feedd12a7c468c"), looks := false }, kinds := [], alts := [], laidByText := true, laidKinds := [.data, .data], laidTests := true, laidLooks := .later }
def TreeHalvesUptoCardSaid : Prop := Claim7.holds Tryd.pinned (.plain (OpenSpec.upto treeHalvesSpec)) treeHalvesUptoCard

/-- THE SECOND FORM's CARD OF 'juratlaw06.TreePaths'. -/
def treePathsUptoCard : Claim7 := { stood := { row := treePathsUptoRow, standIns := [], harness := (true, "e0e9c13306328e0d9632e664d63282a7a3434f511fdafcd852feedd12a7c468c"), looks := false }, kinds := [], alts := [], laidByText := true, laidKinds := [.data, .data, .data, .data], laidTests := true, laidLooks := .later }
def TreePathsUptoCardSaid : Prop := Claim7.holds Tryd.pinned (.plain (OpenSpec.upto treePathsSpec)) treePathsUptoCard

/-- THE SECOND FORM's CARD OF 'juratlaw06.TreeClimbs'. -/
def treeClimbsUptoCard : Claim7 := { stood := { row := treeClimbsUptoRow, standIns := [], harness := (true, "e0e9c13306328e0d9632e664d63282a7a3434f511fdafcd852feedd12a7c468c"), looks := false }, kinds := [], alts := [], laidByText := true, laidKinds := [.data, .data, .data, .data], laidTests := true, laidLooks := .later }
def TreeClimbsUptoCardSaid : Prop := Claim7.holds Tryd.pinned (.plain (OpenSpec.upto treeClimbsSpec)) treeClimbsUptoCard

/-- THE SECOND FORM's CARD OF 'juratlaw06.TreeParts'. -/
def treePartsUptoCard : Claim7 := { stood := { row := treePartsUptoRow, standIns := [], harness := (true, "e0e9c13306328e0d9632e664d63282a7a3434f511fdafcd852feedd12a7c468c"), looks := false }, kinds := [], alts := [], laidByText := true, laidKinds := [.data, .data], laidTests := true, laidLooks := .later }
def TreePartsUptoCardSaid : Prop := Claim7.holds Tryd.pinned (.plain (OpenSpec.upto treePartsSpec)) treePartsUptoCard

/-- THE SECOND FORM's CARD OF 'juratlaw06.TreeBack'. -/
def treeBackUptoCard : Claim7 := { stood := { row := treeBackUptoRow, standIns := [], harness := (true, "e0e9c13306328e0d9632e664d63282a7a3434f511fdafcd852feedd12a7c468c"), looks := false }, kinds := [], alts := [], laidByText := true, laidKinds := [.data, .data], laidTests := true, laidLooks := .later }
def TreeBackUptoCardSaid : Prop := Claim7.holds Tryd.pinned (.plain (OpenSpec.upto treeBackSpec)) treeBackUptoCard

/-- THE SECOND FORM's CARD OF 'juratlaw05.OtsMakes'. -/
def otsMakesUptoCard : Claim7 := { stood := { row := otsMakesUptoRow, standIns := [], harness := (true, "e0e9c13306328e0d9632e664d63282a7a3434f511fdafcd852feedd12a7c468c"), looks := false }, kinds := [], alts := [], laidByText := true, laidKinds := [.data, .data, .data, .data], laidTests := true, laidLooks := .later }
def OtsMakesUptoCardSaid : Prop := Claim7.holds Tryd.pinned (.plain (OpenSpec.upto otsMakesSpec)) otsMakesUptoCard

/-- THE SECOND FORM's CARD OF 'juratlaw05.OtsSigns'. -/
def otsSignsUptoCard : Claim7 := { stood := { row := otsSignsUptoRow, standIns := [], harness := (true, "e0e9c13306328e0d9632e664d63282a7a3434f511fdafcd852feedd12a7c468c"), looks := false }, kinds := [], alts := [], laidByText := true, laidKinds := [.data, .data, .data, .data], laidTests := true, laidLooks := .later }
def OtsSignsUptoCardSaid : Prop := Claim7.holds Tryd.pinned (.plain (OpenSpec.upto otsSignsSpec)) otsSignsUptoCard

/-- THE SECOND FORM's CARD OF 'juratlaw05.OtsBack'. -/
def otsBackUptoCard : Claim7 := { stood := { row := otsBackUptoRow, standIns := [], harness := (true, "e0e9c13306328e0d9632e664d63282a7a3434f511fdafcd852feedd12a7c468c"), looks := false }, kinds := [], alts := [], laidByText := true, laidKinds := [.data, .data], laidTests := true, laidLooks := .later }
def OtsBackUptoCardSaid : Prop := Claim7.holds Tryd.pinned (.plain (OpenSpec.upto otsBackSpec)) otsBackUptoCard

/-- THE SECOND FORM's CARD OF 'juratlaw05.OtsTells'. -/
def otsTellsUptoCard : Claim7 := { stood := { row := otsTellsUptoRow, standIns := [], harness := (true, "e0e9c13306328e0d9632e664d63282a7a3434f511fdafcd852feedd12a7c468c"), looks := false }, kinds := [], alts := [], laidByText := true, laidKinds := [.data, .data, .data, .data], laidTests := true, laidLooks := .later }
def OtsTellsUptoCardSaid : Prop := Claim7.holds Tryd.pinned (.plain (OpenSpec.upto otsTellsSpec)) otsTellsUptoCard

/-- THE SECOND FORM's CARD OF 'juratlaw05.OtsShows'. -/
def otsShowsUptoCard : Claim7 := { stood := { row := otsShowsUptoRow, standIns := [], harness := (true, "e0e9c13306328e0d9632e664d63282a7a3434f511fdafcd852feedd12a7c468c"), looks := false }, kinds := [], alts := [], laidByText := true, laidKinds := [.data, .data, .data, .data], laidTests := true, laidLooks := .later }
def OtsShowsUptoCardSaid : Prop := Claim7.holds Tryd.pinned (.plain (OpenSpec.upto otsShowsSpec)) otsShowsUptoCard

/-- THE SECOND FORM's CARD OF 'juratlaw05.OtsBits'. -/
def otsBitsUptoCard : Claim7 := { stood := { row := otsBitsUptoRow, standIns := [], harness := (true, "e0e9c13306328e0d9632e664d63282a7a3434f511fdafcd852feedd12a7c468c"), looks := false }, kinds := [], alts := [], laidByText := true, laidKinds := [.data, .data, .data, .data], laidTests := true, laidLooks := .later }
def OtsBitsUptoCardSaid : Prop := Claim7.holds Tryd.pinned (.plain (OpenSpec.upto otsBitsSpec)) otsBitsUptoCard
end Rows
end Go.Proofs.YtommjkbbgmkdoaaDoor
