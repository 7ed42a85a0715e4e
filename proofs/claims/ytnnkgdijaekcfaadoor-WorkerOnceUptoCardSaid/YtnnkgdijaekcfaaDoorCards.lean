/-
  DERIVED. GIVEN WITH THE SEED: THE CARDS: each row of YtnnkgdijaekcfaaDoorRows.lean that lists a variable, with what it lists TIED to the program's text (the seventh form; the later family's looks); each row that meets fmt, with fmt's text TOLD by the authors' own Lean function (tested against real Go, not proved from fmt's source: count such statements apart). THE CARD IS WHAT COUNTS. Prove the row's statement (the work); the ties are given (YtnnkgdijaekcfaaDoorTie.lean); close each card by the builder's one call (the guide's Derived/Test/ToyasCard.lean, 'card_holds'). Laid BY PROGRAM, IN A SANDBOX (cutbox-door.mjs). By AI agents, Wed Nov 11 2026. No macro, syntax, notation, axiom, sorry.
-/
import Derived.Test.YtnnkgdijaekcfaaDoorRows
import GoSem.ClaimSeven
namespace Go.Proofs.YtnnkgdijaekcfaaDoor
namespace Rows

/-- THE TIED CARD OF 'juratlaw20.ResultTexts'. -/
def resultTextsCard : Claim7 := { stood := { row := resultTextsRow, standIns := [], harness := (true, "7ec56eabe166438bc4ac3febbde5b1c7643f49c481b0c9c68b7b361414aa158c"), looks := false }, kinds := [], alts := [], laidByText := true, laidKinds := [.data, .data], laidTests := true, laidLooks := .later }
def ResultTextsCardSaid : Prop := Claim7.holds Tryd.pinned (.plain (OpenSpec.ofChange resultTextsSpec)) resultTextsCard

/-- THE TIED CARD OF 'juratlaw20.ResultChecks'. -/
def resultChecksCard : Claim7 := { stood := { row := resultChecksRow, standIns := [], harness := (true, "7ec56eabe166438bc4ac3febbde5b1c7643f49c481b0c9c68b7b361414aa158c"), looks := false }, kinds := [], alts := [], laidByText := true, laidKinds := [.data, .data, .data, .data], laidTests := true, laidLooks := .later }
def ResultChecksCardSaid : Prop := Claim7.holds Tryd.pinned (.plain (OpenSpec.ofChange resultChecksSpec)) resultChecksCard

/-- THE TIED CARD OF 'juratlaw20.ResultApart'. -/
def resultApartCard : Claim7 := { stood := { row := resultApartRow, standIns := [], harness := (true, "7ec56eabe166438bc4ac3febbde5b1c7643f49c481b0c9c68b7b361414aa158c"), looks := false }, kinds := [], alts := [], laidByText := true, laidKinds := [.data, .data], laidTests := true, laidLooks := .later }
def ResultApartCardSaid : Prop := Claim7.holds Tryd.pinned (.plain (OpenSpec.ofChange resultApartSpec)) resultApartCard

/-- THE TIED CARD OF 'juratlaw20.ResultSigned'. -/
def resultSignedCard : Claim7 := { stood := { row := resultSignedRow, standIns := [], harness := (true, "7ec56eabe166438bc4ac3febbde5b1c7643f49c481b0c9c68b7b361414aa158c"), looks := false }, kinds := [], alts := [], laidByText := true, laidKinds := [.data, .data], laidTests := true, laidLooks := .later }
def ResultSignedCardSaid : Prop := Claim7.holds Tryd.pinned (.plain (OpenSpec.ofChange resultSignedSpec)) resultSignedCard

/-- THE TIED CARD OF 'juratlaw20.ResultReads'. -/
def resultReadsCard : Claim7 := { stood := { row := resultReadsRow, standIns := [], harness := (true, "7ec56eabe166438bc4ac3febbde5b1c7643f49c481b0c9c68b7b361414aa158c"), looks := false }, kinds := [], alts := [], laidByText := true, laidKinds := [.data, .data], laidTests := true, laidLooks := .later }
def ResultReadsCardSaid : Prop := Claim7.holds Tryd.pinned (.plain (OpenSpec.ofChange resultReadsSpec)) resultReadsCard

/-- THE TIED CARD OF 'juratlaw20.ResultBack'. -/
def resultBackCard : Claim7 := { stood := { row := resultBackRow, standIns := [], harness := (true, "7ec56eabe166438bc4ac3febbde5b1c7643f49c481b0c9c68b7b361414aa158c"), looks := false }, kinds := [], alts := [], laidByText := true, laidKinds := [.data, .data], laidTests := true, laidLooks := .later }
def ResultBackCardSaid : Prop := Claim7.holds Tryd.pinned (.plain (OpenSpec.ofChange resultBackSpec)) resultBackCard

/-- THE TIED CARD OF 'juratlaw22.WorkerOrders'. -/
def workerOrdersCard : Claim7 := { stood := { row := workerOrdersRow, standIns := [], harness := (true, "7ec56eabe166438bc4ac3febbde5b1c7643f49c481b0c9c68b7b361414aa158c"), looks := false }, kinds := [], alts := [], laidByText := true, laidKinds := [.data, .data, .data, .data], laidTests := true, laidLooks := .later }
def WorkerOrdersCardSaid : Prop := Claim7.holds Tryd.pinned (.plain (OpenSpec.ofChange workerOrdersSpec)) workerOrdersCard

/-- THE TIED CARD OF 'juratlaw22.WorkerRefuses'. -/
def workerRefusesCard : Claim7 := { stood := { row := workerRefusesRow, standIns := [], harness := (true, "7ec56eabe166438bc4ac3febbde5b1c7643f49c481b0c9c68b7b361414aa158c"), looks := false }, kinds := [], alts := [], laidByText := true, laidKinds := [.data, .data, .data, .data], laidTests := true, laidLooks := .later }
def WorkerRefusesCardSaid : Prop := Claim7.holds Tryd.pinned (.plain (OpenSpec.ofChange workerRefusesSpec)) workerRefusesCard

/-- THE TIED CARD OF 'juratlaw22.WorkerNil'. -/
def workerNilCard : Claim7 := { stood := { row := workerNilRow, standIns := [], harness := (true, "7ec56eabe166438bc4ac3febbde5b1c7643f49c481b0c9c68b7b361414aa158c"), looks := false }, kinds := [], alts := [], laidByText := true, laidKinds := [.data, .data], laidTests := true, laidLooks := .later }
def WorkerNilCardSaid : Prop := Claim7.holds Tryd.pinned (.plain (OpenSpec.ofChange workerNilSpec)) workerNilCard

/-- THE TIED CARD OF 'juratlaw22.WorkerOnce'. -/
def workerOnceCard : Claim7 := { stood := { row := workerOnceRow, standIns := [], harness := (true, "7ec56eabe166438bc4ac3febbde5b1c7643f49c481b0c9c68b7b361414aa158c"), looks := false }, kinds := [], alts := [], laidByText := true, laidKinds := [.data, .data, .data, .data], laidTests := true, laidLooks := .later }
def WorkerOnceCardSaid : Prop := Claim7.holds Tryd.pinned (.plain (OpenSpec.ofChange workerOnceSpec)) workerOnceCard

/-- THE TIED CARD OF 'juratlaw22.WorkerRight'. -/
def workerRightCard : Claim7 := { stood := { row := workerRightRow, standIns := [], harness := (true, "7ec56eabe166438bc4ac3febbde5b1c7643f49c481b0c9c68b7b361414aa158c"), looks := false }, kinds := [], alts := [], laidByText := true, laidKinds := [.data, .data], laidTests := true, laidLooks := .later }
def WorkerRightCardSaid : Prop := Claim7.holds Tryd.pinned (.plain (OpenSpec.ofChange workerRightSpec)) workerRightCard

/-- THE SECOND FORM's CARD OF 'juratlaw20.ResultTexts'. -/
def resultTextsUptoCard : Claim7 := { stood := { row := resultTextsUptoRow, standIns := [], harness := (true, "7ec56eabe166438bc4ac3febbde5b1c7643f49c481b0c9c68b7b361414aa158c"), looks := false }, kinds := [], alts := [], laidByText := true, laidKinds := [.data, .data], laidTests := true, laidLooks := .later }
def ResultTextsUptoCardSaid : Prop := Claim7.holds Tryd.pinned (.plain (OpenSpec.upto resultTextsSpec)) resultTextsUptoCard

/-- THE SECOND FORM's CARD OF 'juratlaw20.ResultChecks'. -/
def resultChecksUptoCard : Claim7 := { stood := { row := resultChecksUptoRow, standIns := [], harness := (true, "7ec56eabe166438bc4ac3febbde5b1c7643f49c481b0c9c68b7b361414aa158c"), looks := false }, kinds := [], alts := [], laidByText := true, laidKinds := [.data, .data, .data, .data], laidTests := true, laidLooks := .later }
def ResultChecksUptoCardSaid : Prop := Claim7.holds Tryd.pinned (.plain (OpenSpec.upto resultChecksSpec)) resultChecksUptoCard

/-- THE SECOND FORM's CARD OF 'juratlaw20.ResultApart'. -/
def resultApartUptoCard : Claim7 := { stood := { row := resultApartUptoRow, standIns := [], harness := (true, "7ec56eabe166438bc4ac3febbde5b1c7643f49c481b0c9c68b7b361414aa158c"), looks := false }, kinds := [], alts := [], laidByText := true, laidKinds := [.data, .data], laidTests := true, laidLooks := .later }
def ResultApartUptoCardSaid : Prop := Claim7.holds Tryd.pinned (.plain (OpenSpec.upto resultApartSpec)) resultApartUptoCard

/-- THE SECOND FORM's CARD OF 'juratlaw20.ResultSigned'. -/
def resultSignedUptoCard : Claim7 := { stood := { row := resultSignedUptoRow, standIns := [], harness := (true, "7ec56eabe166438bc4ac3febbde5b1c7643f49c481b0c9c68b7b361414aa158c"), looks := false }, kinds := [], alts := [], laidByText := true, laidKinds := [.data, .data], laidTests := true, laidLooks := .later }
def ResultSignedUptoCardSaid : Prop := Claim7.holds Tryd.pinned (.plain (OpenSpec.upto resultSignedSpec)) resultSignedUptoCard

/-- THE SECOND FORM's CARD OF 'juratlaw20.ResultReads'. -/
def resultReadsUptoCard : Claim7 := { stood := { row := resultReadsUptoRow, standIns := [], harness := (true, "7ec56eabe166438bc4ac3febbde5b1c7643f49c481b0c9c68b7b361414aa158c"), looks := false }, kinds := [], alts := [], laidByText := true, laidKinds := [.data, .data], laidTests := true, laidLooks := .later }
def ResultReadsUptoCardSaid : Prop := Claim7.holds Tryd.pinned (.plain (OpenSpec.upto resultReadsSpec)) resultReadsUptoCard

/-- THE SECOND FORM's CARD OF 'juratlaw20.ResultBack'. -/
def resultBackUptoCard : Claim7 := { stood := { row := resultBackUptoRow, standIns := [], harness := (true, "7ec56eabe166438bc4ac3febbde5b1c7643f49c481b0c9c68b7b361414aa158c"), looks := false }, kinds := [], alts := [], laidByText := true, laidKinds := [.data, .data], laidTests := true, laidLooks := .later }
def ResultBackUptoCardSaid : Prop := Claim7.holds Tryd.pinned (.plain (OpenSpec.upto resultBackSpec)) resultBackUptoCard

/-- THE SECOND FORM's CARD OF 'juratlaw22.WorkerOrders'. -/
def workerOrdersUptoCard : Claim7 := { stood := { row := workerOrdersUptoRow, standIns := [], harness := (true, "7ec56eabe166438bc4ac3febbde5b1c7643f49c481b0c9c68b7b361414aa158c"), looks := false }, kinds := [], alts := [], laidByText := true, laidKinds := [.data, .data, .data, .data], laidTests := true, laidLooks := .later }
def WorkerOrdersUptoCardSaid : Prop := Claim7.holds Tryd.pinned (.plain (OpenSpec.upto workerOrdersSpec)) workerOrdersUptoCard

/-- THE SECOND FORM's CARD OF 'juratlaw22.WorkerRefuses'. -/
def workerRefusesUptoCard : Claim7 := { stood := { row := workerRefusesUptoRow, standIns := [], harness := (true, "7ec56eabe166438bc4ac3febbde5b1c7643f49c481b0c9c68b7b361414aa158c"), looks := false }, kinds := [], alts := [], laidByText := true, laidKinds := [.data, .data, .data, .data], laidTests := true, laidLooks := .later }
def WorkerRefusesUptoCardSaid : Prop := Claim7.holds Tryd.pinned (.plain (OpenSpec.upto workerRefusesSpec)) workerRefusesUptoCard

/-- THE SECOND FORM's CARD OF 'juratlaw22.WorkerNil'. -/
def workerNilUptoCard : Claim7 := { stood := { row := workerNilUptoRow, standIns := [], harness := (true, "7ec56eabe166438bc4ac3febbde5b1c7643f49c481b0c9c68b7b361414aa158c"), looks := false }, kinds := [], alts := [], laidByText := true, laidKinds := [.data, .data], laidTests := true, laidLooks := .later }
def WorkerNilUptoCardSaid : Prop := Claim7.holds Tryd.pinned (.plain (OpenSpec.upto workerNilSpec)) workerNilUptoCard

/-- THE SECOND FORM's CARD OF 'juratlaw22.WorkerOnce'. -/
def workerOnceUptoCard : Claim7 := { stood := { row := workerOnceUptoRow, standIns := [], harness := (true, "7ec56eabe166438bc4ac3febbde5b1c7643f49c481b0c9c68b7b361414aa158c"), looks := false }, kinds := [], alts := [], laidByText := true, laidKinds := [.data, .data, .data, .data], laidTests := true, laidLooks := .later }
def WorkerOnceUptoCardSaid : Prop := Claim7.holds Tryd.pinned (.plain (OpenSpec.upto workerOnceSpec)) workerOnceUptoCard

/-- THE SECOND FORM's CARD OF 'juratlaw22.WorkerRight'. -/
def workerRightUptoCard : Claim7 := { stood := { row := workerRightUptoRow, standIns := [], harness := (true, "7ec56eabe166438bc4ac3febbde5b1c7643f49c481b0c9c68b7b361414aa158c"), looks := false }, kinds := [], alts := [], laidByText := true, laidKinds := [.data, .data], laidTests := true, laidLooks := .later }
def WorkerRightUptoCardSaid : Prop := Claim7.holds Tryd.pinned (.plain (OpenSpec.upto workerRightSpec)) workerRightUptoCard
end Rows
end Go.Proofs.YtnnkgdijaekcfaaDoor
