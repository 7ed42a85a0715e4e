/-
  NARROWER THAN 'FOR EVERY INPUT', by the rows' own cells (each row's printed sentence says how): ResultTexts: laid · ResultChecks: laid · ResultApart: laid · ResultSigned: laid · ResultReads: laid · ResultBack: laid · WorkerOrders: laid · WorkerRefuses: laid · WorkerNil: laid · WorkerOnce: laid · WorkerRight: laid.
  DERIVED. THE GIVEN ROWS OF THIS SEAT. 11 by the template 'for every input the law returns true; each argument reads behind the call as it read before'; 0 by the template 'total and deterministic' (their statements: YtnnkgdijaekcfaaDoorTotals.lean).
  GIVEN WITH THE SEED: the statements are not yours to turn. If you find one false, say at which input.
  Laid BY PROGRAM, IN A SANDBOX (cutbox-rows.mjs): the forced cells as the released guide's own fill.sh prints them over the translation ef407daadc862730… (all of the seat's roots in one cut). By AI agents, Wed Nov 11 2026. No macro, syntax, notation, axiom, sorry.
-/
import Derived.Test.YtnnkgdijaekcfaaDoorChecked
import GoSem.Claim
import GoSem.ClaimJoined
import GoSem.ClaimMapViews
import Derived.JoinedTies
import Derived.KernelRfl
namespace Go.Proofs.YtnnkgdijaekcfaaDoor
/- THE CELL 'sum', in the pinned program and in every row, IS THE sha256 OF THE DUMP (.gsa) THAT YtnnkgdijaekcfaaDoorProg.lean LOADS. Nothing in Lean hashes anything: it is a label: what it is worth is what the hold of that sum in a sandbox is worth. -/
noncomputable def Tryd.pinned : Pinned := { name := "ytnnkgdijaekcfaadoor", sum := "ef407daadc8627301b165ac7499ae5f9a4c8c4b555f12b42c7ca0e305a00c55c", checked := Tryd.checked }
namespace Rows
def none {H : Type} : Left H := { results := [], args := [] }

/- WHAT THE LISTED PACKAGE-LEVEL VARIABLES READ AS WHEN THE CALL BEGINS. Each datum BY PROGRAM (the guide's laid-datum.mjs) off the statement by which the dump's own 'gosem.cut.vars' lays the variable. In a bare row this is a premise. The card (YtnnkgdijaekcfaaDoorCards.lean) ties it to the program's text. -/
def laid_jurat_sha_k {H : Type} : DataW H := .agg [.lit (.int .u32 1116352408), .lit (.int .u32 1899447441), .lit (.int .u32 3049323471), .lit (.int .u32 3921009573), .lit (.int .u32 961987163), .lit (.int .u32 1508970993), .lit (.int .u32 2453635748), .lit (.int .u32 2870763221), .lit (.int .u32 3624381080), .lit (.int .u32 310598401), .lit (.int .u32 607225278), .lit (.int .u32 1426881987), .lit (.int .u32 1925078388), .lit (.int .u32 2162078206), .lit (.int .u32 2614888103), .lit (.int .u32 3248222580), .lit (.int .u32 3835390401), .lit (.int .u32 4022224774), .lit (.int .u32 264347078), .lit (.int .u32 604807628), .lit (.int .u32 770255983), .lit (.int .u32 1249150122), .lit (.int .u32 1555081692), .lit (.int .u32 1996064986), .lit (.int .u32 2554220882), .lit (.int .u32 2821834349), .lit (.int .u32 2952996808), .lit (.int .u32 3210313671), .lit (.int .u32 3336571891), .lit (.int .u32 3584528711), .lit (.int .u32 113926993), .lit (.int .u32 338241895), .lit (.int .u32 666307205), .lit (.int .u32 773529912), .lit (.int .u32 1294757372), .lit (.int .u32 1396182291), .lit (.int .u32 1695183700), .lit (.int .u32 1986661051), .lit (.int .u32 2177026350), .lit (.int .u32 2456956037), .lit (.int .u32 2730485921), .lit (.int .u32 2820302411), .lit (.int .u32 3259730800), .lit (.int .u32 3345764771), .lit (.int .u32 3516065817), .lit (.int .u32 3600352804), .lit (.int .u32 4094571909), .lit (.int .u32 275423344), .lit (.int .u32 430227734), .lit (.int .u32 506948616), .lit (.int .u32 659060556), .lit (.int .u32 883997877), .lit (.int .u32 958139571), .lit (.int .u32 1322822218), .lit (.int .u32 1537002063), .lit (.int .u32 1747873779), .lit (.int .u32 1955562222), .lit (.int .u32 2024104815), .lit (.int .u32 2227730452), .lit (.int .u32 2361852424), .lit (.int .u32 2428436474), .lit (.int .u32 2756734187), .lit (.int .u32 3204031479), .lit (.int .u32 3329325298)]
def laid_jurat_sha_begin {H : Type} : DataW H := .agg [.lit (.int .u32 1779033703), .lit (.int .u32 3144134277), .lit (.int .u32 1013904242), .lit (.int .u32 2773480762), .lit (.int .u32 1359893119), .lit (.int .u32 2600822924), .lit (.int .u32 528734635), .lit (.int .u32 1541459225)]
def laid_jurat_juratref02_first {H : Type} : DataW H := .agg [.lit (.int .u32 1779033703), .lit (.int .u32 3144134277), .lit (.int .u32 1013904242), .lit (.int .u32 2773480762), .lit (.int .u32 1359893119), .lit (.int .u32 2600822924), .lit (.int .u32 528734635), .lit (.int .u32 1541459225)]
def laid_jurat_juratref02_constants {H : Type} : DataW H := .agg [.lit (.int .u32 1116352408), .lit (.int .u32 1899447441), .lit (.int .u32 3049323471), .lit (.int .u32 3921009573), .lit (.int .u32 961987163), .lit (.int .u32 1508970993), .lit (.int .u32 2453635748), .lit (.int .u32 2870763221), .lit (.int .u32 3624381080), .lit (.int .u32 310598401), .lit (.int .u32 607225278), .lit (.int .u32 1426881987), .lit (.int .u32 1925078388), .lit (.int .u32 2162078206), .lit (.int .u32 2614888103), .lit (.int .u32 3248222580), .lit (.int .u32 3835390401), .lit (.int .u32 4022224774), .lit (.int .u32 264347078), .lit (.int .u32 604807628), .lit (.int .u32 770255983), .lit (.int .u32 1249150122), .lit (.int .u32 1555081692), .lit (.int .u32 1996064986), .lit (.int .u32 2554220882), .lit (.int .u32 2821834349), .lit (.int .u32 2952996808), .lit (.int .u32 3210313671), .lit (.int .u32 3336571891), .lit (.int .u32 3584528711), .lit (.int .u32 113926993), .lit (.int .u32 338241895), .lit (.int .u32 666307205), .lit (.int .u32 773529912), .lit (.int .u32 1294757372), .lit (.int .u32 1396182291), .lit (.int .u32 1695183700), .lit (.int .u32 1986661051), .lit (.int .u32 2177026350), .lit (.int .u32 2456956037), .lit (.int .u32 2730485921), .lit (.int .u32 2820302411), .lit (.int .u32 3259730800), .lit (.int .u32 3345764771), .lit (.int .u32 3516065817), .lit (.int .u32 3600352804), .lit (.int .u32 4094571909), .lit (.int .u32 275423344), .lit (.int .u32 430227734), .lit (.int .u32 506948616), .lit (.int .u32 659060556), .lit (.int .u32 883997877), .lit (.int .u32 958139571), .lit (.int .u32 1322822218), .lit (.int .u32 1537002063), .lit (.int .u32 1747873779), .lit (.int .u32 1955562222), .lit (.int .u32 2024104815), .lit (.int .u32 2227730452), .lit (.int .u32 2361852424), .lit (.int .u32 2428436474), .lit (.int .u32 2756734187), .lit (.int .u32 3204031479), .lit (.int .u32 3329325298)]

/-- 'juratlaw20.ResultTexts': WHATEVER THE INPUT: true; the input reads as it did. -/
def resultTextsSpec : ChangeSpec := { name := "resultTexts", fn := fun _ => fun
  | [d1, d2, d3, d4, d5] => { results := [.lit (.bool true)], args := [d1, d2, d3, d4, d5] }
  | _ => none }
def resultTextsRow : OpenClaim := { program := "ytnnkgdijaekcfaadoor", sum := "ef407daadc8627301b165ac7499ae5f9a4c8c4b555f12b42c7ca0e305a00c55c", func := "jurat/juratlaw20.ResultTexts", spec := "resultTexts", unfollowed := true, recurses := true, named := ["jurat/sha.begin", "jurat/sha.k"], apart := false, laid := [("jurat/sha.k", laid_jurat_sha_k), ("jurat/sha.begin", laid_jurat_sha_begin)] }
def ResultTextsSaid : Prop := resultTextsRow.holds Tryd.pinned (OpenSpec.ofChange resultTextsSpec)

/-- ITS FALSE NEIGHBOUR: 'it returns false'. Refute it at one input. -/
def resultTextsWrong : ChangeSpec := { name := "resultTexts", fn := fun _ => fun
  | [d1, d2, d3, d4, d5] => { results := [.lit (.bool false)], args := [d1, d2, d3, d4, d5] }
  | _ => none }
def ResultTextsWrongFalsely : Prop := resultTextsRow.holds Tryd.pinned (OpenSpec.ofChange resultTextsWrong)

/-- 'juratlaw20.ResultChecks': WHATEVER THE INPUT: true; the input reads as it did. -/
def resultChecksSpec : ChangeSpec := { name := "resultChecks", fn := fun _ => fun
  | [d1, d2, d3, d4, d5, d6] => { results := [.lit (.bool true)], args := [d1, d2, d3, d4, d5, d6] }
  | _ => none }
def resultChecksRow : OpenClaim := { program := "ytnnkgdijaekcfaadoor", sum := "ef407daadc8627301b165ac7499ae5f9a4c8c4b555f12b42c7ca0e305a00c55c", func := "jurat/juratlaw20.ResultChecks", spec := "resultChecks", unfollowed := true, recurses := true, named := ["jurat/sha.begin", "jurat/sha.k", "jurat/juratref02.first", "jurat/juratref02.constants"], apart := false, laid := [("jurat/juratref02.first", laid_jurat_juratref02_first), ("jurat/juratref02.constants", laid_jurat_juratref02_constants), ("jurat/sha.k", laid_jurat_sha_k), ("jurat/sha.begin", laid_jurat_sha_begin)] }
def ResultChecksSaid : Prop := resultChecksRow.holds Tryd.pinned (OpenSpec.ofChange resultChecksSpec)

/-- ITS FALSE NEIGHBOUR: 'it returns false'. Refute it at one input. -/
def resultChecksWrong : ChangeSpec := { name := "resultChecks", fn := fun _ => fun
  | [d1, d2, d3, d4, d5, d6] => { results := [.lit (.bool false)], args := [d1, d2, d3, d4, d5, d6] }
  | _ => none }
def ResultChecksWrongFalsely : Prop := resultChecksRow.holds Tryd.pinned (OpenSpec.ofChange resultChecksWrong)

/-- 'juratlaw20.ResultApart': WHATEVER THE INPUT: true; the input reads as it did. -/
def resultApartSpec : ChangeSpec := { name := "resultApart", fn := fun _ => fun
  | [d1, d2] => { results := [.lit (.bool true)], args := [d1, d2] }
  | _ => none }
def resultApartRow : OpenClaim := { program := "ytnnkgdijaekcfaadoor", sum := "ef407daadc8627301b165ac7499ae5f9a4c8c4b555f12b42c7ca0e305a00c55c", func := "jurat/juratlaw20.ResultApart", spec := "resultApart", unfollowed := true, recurses := true, named := ["jurat/sha.begin", "jurat/sha.k"], apart := false, laid := [("jurat/sha.k", laid_jurat_sha_k), ("jurat/sha.begin", laid_jurat_sha_begin)] }
def ResultApartSaid : Prop := resultApartRow.holds Tryd.pinned (OpenSpec.ofChange resultApartSpec)

/-- ITS FALSE NEIGHBOUR: 'it returns false'. Refute it at one input. -/
def resultApartWrong : ChangeSpec := { name := "resultApart", fn := fun _ => fun
  | [d1, d2] => { results := [.lit (.bool false)], args := [d1, d2] }
  | _ => none }
def ResultApartWrongFalsely : Prop := resultApartRow.holds Tryd.pinned (OpenSpec.ofChange resultApartWrong)

/-- 'juratlaw20.ResultSigned': WHATEVER THE INPUT: true; the input reads as it did. -/
def resultSignedSpec : ChangeSpec := { name := "resultSigned", fn := fun _ => fun
  | [d1, d2, d3, d4, d5, d6] => { results := [.lit (.bool true)], args := [d1, d2, d3, d4, d5, d6] }
  | _ => none }
def resultSignedRow : OpenClaim := { program := "ytnnkgdijaekcfaadoor", sum := "ef407daadc8627301b165ac7499ae5f9a4c8c4b555f12b42c7ca0e305a00c55c", func := "jurat/juratlaw20.ResultSigned", spec := "resultSigned", unfollowed := true, recurses := true, named := ["jurat/sha.begin", "jurat/sha.k"], apart := false, laid := [("jurat/sha.k", laid_jurat_sha_k), ("jurat/sha.begin", laid_jurat_sha_begin)] }
def ResultSignedSaid : Prop := resultSignedRow.holds Tryd.pinned (OpenSpec.ofChange resultSignedSpec)

/-- ITS FALSE NEIGHBOUR: 'it returns false'. Refute it at one input. -/
def resultSignedWrong : ChangeSpec := { name := "resultSigned", fn := fun _ => fun
  | [d1, d2, d3, d4, d5, d6] => { results := [.lit (.bool false)], args := [d1, d2, d3, d4, d5, d6] }
  | _ => none }
def ResultSignedWrongFalsely : Prop := resultSignedRow.holds Tryd.pinned (OpenSpec.ofChange resultSignedWrong)

/-- 'juratlaw20.ResultReads': WHATEVER THE INPUT: true; the input reads as it did. -/
def resultReadsSpec : ChangeSpec := { name := "resultReads", fn := fun _ => fun
  | [d1, d2, d3] => { results := [.lit (.bool true)], args := [d1, d2, d3] }
  | _ => none }
def resultReadsRow : OpenClaim := { program := "ytnnkgdijaekcfaadoor", sum := "ef407daadc8627301b165ac7499ae5f9a4c8c4b555f12b42c7ca0e305a00c55c", func := "jurat/juratlaw20.ResultReads", spec := "resultReads", unfollowed := true, recurses := true, named := ["jurat/sha.begin", "jurat/sha.k"], apart := false, laid := [("jurat/sha.k", laid_jurat_sha_k), ("jurat/sha.begin", laid_jurat_sha_begin)] }
def ResultReadsSaid : Prop := resultReadsRow.holds Tryd.pinned (OpenSpec.ofChange resultReadsSpec)

/-- ITS FALSE NEIGHBOUR: 'it returns false'. Refute it at one input. -/
def resultReadsWrong : ChangeSpec := { name := "resultReads", fn := fun _ => fun
  | [d1, d2, d3] => { results := [.lit (.bool false)], args := [d1, d2, d3] }
  | _ => none }
def ResultReadsWrongFalsely : Prop := resultReadsRow.holds Tryd.pinned (OpenSpec.ofChange resultReadsWrong)

/-- 'juratlaw20.ResultBack': WHATEVER THE INPUT: true; the input reads as it did. -/
def resultBackSpec : ChangeSpec := { name := "resultBack", fn := fun _ => fun
  | [d1, d2, d3] => { results := [.lit (.bool true)], args := [d1, d2, d3] }
  | _ => none }
def resultBackRow : OpenClaim := { program := "ytnnkgdijaekcfaadoor", sum := "ef407daadc8627301b165ac7499ae5f9a4c8c4b555f12b42c7ca0e305a00c55c", func := "jurat/juratlaw20.ResultBack", spec := "resultBack", unfollowed := true, recurses := true, named := ["jurat/sha.begin", "jurat/sha.k"], apart := false, laid := [("jurat/sha.k", laid_jurat_sha_k), ("jurat/sha.begin", laid_jurat_sha_begin)] }
def ResultBackSaid : Prop := resultBackRow.holds Tryd.pinned (OpenSpec.ofChange resultBackSpec)

/-- ITS FALSE NEIGHBOUR: 'it returns false'. Refute it at one input. -/
def resultBackWrong : ChangeSpec := { name := "resultBack", fn := fun _ => fun
  | [d1, d2, d3] => { results := [.lit (.bool false)], args := [d1, d2, d3] }
  | _ => none }
def ResultBackWrongFalsely : Prop := resultBackRow.holds Tryd.pinned (OpenSpec.ofChange resultBackWrong)

/-- 'juratlaw22.WorkerOrders': WHATEVER THE INPUT: true; the input reads as it did. -/
def workerOrdersSpec : ChangeSpec := { name := "workerOrders", fn := fun _ => fun
  | [d1, d2, d3] => { results := [.lit (.bool true)], args := [d1, d2, d3] }
  | _ => none }
def workerOrdersRow : OpenClaim := { program := "ytnnkgdijaekcfaadoor", sum := "ef407daadc8627301b165ac7499ae5f9a4c8c4b555f12b42c7ca0e305a00c55c", func := "jurat/juratlaw22.WorkerOrders", spec := "workerOrders", unfollowed := true, recurses := true, named := ["jurat/sha.begin", "jurat/sha.k", "jurat/juratref02.first", "jurat/juratref02.constants"], apart := false, laid := [("jurat/juratref02.first", laid_jurat_juratref02_first), ("jurat/juratref02.constants", laid_jurat_juratref02_constants), ("jurat/sha.k", laid_jurat_sha_k), ("jurat/sha.begin", laid_jurat_sha_begin)] }
def WorkerOrdersSaid : Prop := workerOrdersRow.holds Tryd.pinned (OpenSpec.ofChange workerOrdersSpec)

/-- ITS FALSE NEIGHBOUR: 'it returns false'. Refute it at one input. -/
def workerOrdersWrong : ChangeSpec := { name := "workerOrders", fn := fun _ => fun
  | [d1, d2, d3] => { results := [.lit (.bool false)], args := [d1, d2, d3] }
  | _ => none }
def WorkerOrdersWrongFalsely : Prop := workerOrdersRow.holds Tryd.pinned (OpenSpec.ofChange workerOrdersWrong)

/-- 'juratlaw22.WorkerRefuses': WHATEVER THE INPUT: true; the input reads as it did. -/
def workerRefusesSpec : ChangeSpec := { name := "workerRefuses", fn := fun _ => fun
  | [d1, d2, d3, d4, d5] => { results := [.lit (.bool true)], args := [d1, d2, d3, d4, d5] }
  | _ => none }
def workerRefusesRow : OpenClaim := { program := "ytnnkgdijaekcfaadoor", sum := "ef407daadc8627301b165ac7499ae5f9a4c8c4b555f12b42c7ca0e305a00c55c", func := "jurat/juratlaw22.WorkerRefuses", spec := "workerRefuses", unfollowed := true, recurses := true, named := ["jurat/sha.begin", "jurat/sha.k", "jurat/juratref02.first", "jurat/juratref02.constants"], apart := false, laid := [("jurat/juratref02.first", laid_jurat_juratref02_first), ("jurat/juratref02.constants", laid_jurat_juratref02_constants), ("jurat/sha.k", laid_jurat_sha_k), ("jurat/sha.begin", laid_jurat_sha_begin)] }
def WorkerRefusesSaid : Prop := workerRefusesRow.holds Tryd.pinned (OpenSpec.ofChange workerRefusesSpec)

/-- ITS FALSE NEIGHBOUR: 'it returns false'. Refute it at one input. -/
def workerRefusesWrong : ChangeSpec := { name := "workerRefuses", fn := fun _ => fun
  | [d1, d2, d3, d4, d5] => { results := [.lit (.bool false)], args := [d1, d2, d3, d4, d5] }
  | _ => none }
def WorkerRefusesWrongFalsely : Prop := workerRefusesRow.holds Tryd.pinned (OpenSpec.ofChange workerRefusesWrong)

/-- 'juratlaw22.WorkerNil': WHATEVER THE INPUT: true; the input reads as it did. -/
def workerNilSpec : ChangeSpec := { name := "workerNil", fn := fun _ => fun
  | [d] => { results := [.lit (.bool true)], args := [d] }
  | _ => none }
def workerNilRow : OpenClaim := { program := "ytnnkgdijaekcfaadoor", sum := "ef407daadc8627301b165ac7499ae5f9a4c8c4b555f12b42c7ca0e305a00c55c", func := "jurat/juratlaw22.WorkerNil", spec := "workerNil", unfollowed := true, recurses := true, named := ["jurat/sha.begin", "jurat/sha.k"], apart := false, laid := [("jurat/sha.k", laid_jurat_sha_k), ("jurat/sha.begin", laid_jurat_sha_begin)] }
def WorkerNilSaid : Prop := workerNilRow.holds Tryd.pinned (OpenSpec.ofChange workerNilSpec)

/-- ITS FALSE NEIGHBOUR: 'it returns false'. Refute it at one input. -/
def workerNilWrong : ChangeSpec := { name := "workerNil", fn := fun _ => fun
  | [d] => { results := [.lit (.bool false)], args := [d] }
  | _ => none }
def WorkerNilWrongFalsely : Prop := workerNilRow.holds Tryd.pinned (OpenSpec.ofChange workerNilWrong)

/-- 'juratlaw22.WorkerOnce': WHATEVER THE INPUT: true; the input reads as it did. -/
def workerOnceSpec : ChangeSpec := { name := "workerOnce", fn := fun _ => fun
  | [d1, d2, d3, d4] => { results := [.lit (.bool true)], args := [d1, d2, d3, d4] }
  | _ => none }
def workerOnceRow : OpenClaim := { program := "ytnnkgdijaekcfaadoor", sum := "ef407daadc8627301b165ac7499ae5f9a4c8c4b555f12b42c7ca0e305a00c55c", func := "jurat/juratlaw22.WorkerOnce", spec := "workerOnce", unfollowed := true, recurses := true, named := ["jurat/sha.begin", "jurat/sha.k", "jurat/juratref02.first", "jurat/juratref02.constants"], apart := false, laid := [("jurat/juratref02.first", laid_jurat_juratref02_first), ("jurat/juratref02.constants", laid_jurat_juratref02_constants), ("jurat/sha.k", laid_jurat_sha_k), ("jurat/sha.begin", laid_jurat_sha_begin)] }
def WorkerOnceSaid : Prop := workerOnceRow.holds Tryd.pinned (OpenSpec.ofChange workerOnceSpec)

/-- ITS FALSE NEIGHBOUR: 'it returns false'. Refute it at one input. -/
def workerOnceWrong : ChangeSpec := { name := "workerOnce", fn := fun _ => fun
  | [d1, d2, d3, d4] => { results := [.lit (.bool false)], args := [d1, d2, d3, d4] }
  | _ => none }
def WorkerOnceWrongFalsely : Prop := workerOnceRow.holds Tryd.pinned (OpenSpec.ofChange workerOnceWrong)

/-- 'juratlaw22.WorkerRight': WHATEVER THE INPUT: true; the input reads as it did. -/
def workerRightSpec : ChangeSpec := { name := "workerRight", fn := fun _ => fun
  | [d1, d2, d3, d4] => { results := [.lit (.bool true)], args := [d1, d2, d3, d4] }
  | _ => none }
def workerRightRow : OpenClaim := { program := "ytnnkgdijaekcfaadoor", sum := "ef407daadc8627301b165ac7499ae5f9a4c8c4b555f12b42c7ca0e305a00c55c", func := "jurat/juratlaw22.WorkerRight", spec := "workerRight", unfollowed := true, recurses := true, named := ["jurat/sha.begin", "jurat/sha.k"], apart := false, laid := [("jurat/sha.k", laid_jurat_sha_k), ("jurat/sha.begin", laid_jurat_sha_begin)] }
def WorkerRightSaid : Prop := workerRightRow.holds Tryd.pinned (OpenSpec.ofChange workerRightSpec)

/-- ITS FALSE NEIGHBOUR: 'it returns false'. Refute it at one input. -/
def workerRightWrong : ChangeSpec := { name := "workerRight", fn := fun _ => fun
  | [d1, d2, d3, d4] => { results := [.lit (.bool false)], args := [d1, d2, d3, d4] }
  | _ => none }
def WorkerRightWrongFalsely : Prop := workerRightRow.holds Tryd.pinned (OpenSpec.ofChange workerRightWrong)

/- THE SECOND FORM. 'bulk': how many values and letters a reading holds, each counted each time it is reached (what is shared counts as often as it is met; a slice's spare places count too). A statement '..UptoSaid' is the law's where the arguments, and the package variables that the reading takes, are together of bulk at most 1048576: NARROWER than '..Said'. Prove '..Said' where nothing that the law and all that it calls make is longer than what came in: it says more and counts as full. Else prove '..UptoSaid'. A law counts once. -/
mutual
def uptoBulk {H : Type} : DataW H → Nat
  | .lit (.string bytes) => bytes.length + 1
  | .lit _ => 1
  | .nil => 1
  | .ptr d => uptoBulk d + 1
  | .slice elems spare => uptoBulkAll elems + uptoBulkAll spare + 1
  | .agg parts => uptoBulkAll parts + 1
  | .iface _ d => uptoBulk d + 1
  | .map entries => uptoBulkEntries entries + 1
  | .held _ => 1
def uptoBulkAll {H : Type} : List (DataW H) → Nat
  | [] => 0
  | d :: r => uptoBulk d + uptoBulkAll r
def uptoBulkEntries {H : Type} : List (Lit × DataW H) → Nat
  | [] => 0
  | x :: r => uptoBulkEntry x + uptoBulkEntries r
def uptoBulkEntry {H : Type} : Lit × DataW H → Nat
  | (.string bytes, d) => bytes.length + uptoBulk d + 1
  | (_, d) => uptoBulk d + 1
 end
def uptoSmall : (H : Type) → List (DataW H) → Bool := fun _ ds => decide (uptoBulkAll ds ≤ 1048576)
def OpenSpec.upto (s : _root_.Go.ChangeSpec) : _root_.Go.OpenSpec := { _root_.Go.OpenSpec.ofChange s with cond := some uptoSmall }

/-- 'juratlaw20.ResultTexts', WHERE WHAT IT READS IS OF BULK AT MOST 1048576: true; the input reads as it did. -/
def resultTextsUptoRow : OpenClaim := { program := "ytnnkgdijaekcfaadoor", sum := "ef407daadc8627301b165ac7499ae5f9a4c8c4b555f12b42c7ca0e305a00c55c", func := "jurat/juratlaw20.ResultTexts", spec := "resultTexts", unfollowed := true, recurses := true, named := ["jurat/sha.begin", "jurat/sha.k"], apart := false, laid := [("jurat/sha.k", laid_jurat_sha_k), ("jurat/sha.begin", laid_jurat_sha_begin)], narrowed := true }
def ResultTextsUptoSaid : Prop := resultTextsUptoRow.holds Tryd.pinned (OpenSpec.upto resultTextsSpec)

/-- 'juratlaw20.ResultChecks', WHERE WHAT IT READS IS OF BULK AT MOST 1048576: true; the input reads as it did. -/
def resultChecksUptoRow : OpenClaim := { program := "ytnnkgdijaekcfaadoor", sum := "ef407daadc8627301b165ac7499ae5f9a4c8c4b555f12b42c7ca0e305a00c55c", func := "jurat/juratlaw20.ResultChecks", spec := "resultChecks", unfollowed := true, recurses := true, named := ["jurat/sha.begin", "jurat/sha.k", "jurat/juratref02.first", "jurat/juratref02.constants"], apart := false, laid := [("jurat/juratref02.first", laid_jurat_juratref02_first), ("jurat/juratref02.constants", laid_jurat_juratref02_constants), ("jurat/sha.k", laid_jurat_sha_k), ("jurat/sha.begin", laid_jurat_sha_begin)], narrowed := true }
def ResultChecksUptoSaid : Prop := resultChecksUptoRow.holds Tryd.pinned (OpenSpec.upto resultChecksSpec)

/-- 'juratlaw20.ResultApart', WHERE WHAT IT READS IS OF BULK AT MOST 1048576: true; the input reads as it did. -/
def resultApartUptoRow : OpenClaim := { program := "ytnnkgdijaekcfaadoor", sum := "ef407daadc8627301b165ac7499ae5f9a4c8c4b555f12b42c7ca0e305a00c55c", func := "jurat/juratlaw20.ResultApart", spec := "resultApart", unfollowed := true, recurses := true, named := ["jurat/sha.begin", "jurat/sha.k"], apart := false, laid := [("jurat/sha.k", laid_jurat_sha_k), ("jurat/sha.begin", laid_jurat_sha_begin)], narrowed := true }
def ResultApartUptoSaid : Prop := resultApartUptoRow.holds Tryd.pinned (OpenSpec.upto resultApartSpec)

/-- 'juratlaw20.ResultSigned', WHERE WHAT IT READS IS OF BULK AT MOST 1048576: true; the input reads as it did. -/
def resultSignedUptoRow : OpenClaim := { program := "ytnnkgdijaekcfaadoor", sum := "ef407daadc8627301b165ac7499ae5f9a4c8c4b555f12b42c7ca0e305a00c55c", func := "jurat/juratlaw20.ResultSigned", spec := "resultSigned", unfollowed := true, recurses := true, named := ["jurat/sha.begin", "jurat/sha.k"], apart := false, laid := [("jurat/sha.k", laid_jurat_sha_k), ("jurat/sha.begin", laid_jurat_sha_begin)], narrowed := true }
def ResultSignedUptoSaid : Prop := resultSignedUptoRow.holds Tryd.pinned (OpenSpec.upto resultSignedSpec)

/-- 'juratlaw20.ResultReads', WHERE WHAT IT READS IS OF BULK AT MOST 1048576: true; the input reads as it did. -/
def resultReadsUptoRow : OpenClaim := { program := "ytnnkgdijaekcfaadoor", sum := "ef407daadc8627301b165ac7499ae5f9a4c8c4b555f12b42c7ca0e305a00c55c", func := "jurat/juratlaw20.ResultReads", spec := "resultReads", unfollowed := true, recurses := true, named := ["jurat/sha.begin", "jurat/sha.k"], apart := false, laid := [("jurat/sha.k", laid_jurat_sha_k), ("jurat/sha.begin", laid_jurat_sha_begin)], narrowed := true }
def ResultReadsUptoSaid : Prop := resultReadsUptoRow.holds Tryd.pinned (OpenSpec.upto resultReadsSpec)

/-- 'juratlaw20.ResultBack', WHERE WHAT IT READS IS OF BULK AT MOST 1048576: true; the input reads as it did. -/
def resultBackUptoRow : OpenClaim := { program := "ytnnkgdijaekcfaadoor", sum := "ef407daadc8627301b165ac7499ae5f9a4c8c4b555f12b42c7ca0e305a00c55c", func := "jurat/juratlaw20.ResultBack", spec := "resultBack", unfollowed := true, recurses := true, named := ["jurat/sha.begin", "jurat/sha.k"], apart := false, laid := [("jurat/sha.k", laid_jurat_sha_k), ("jurat/sha.begin", laid_jurat_sha_begin)], narrowed := true }
def ResultBackUptoSaid : Prop := resultBackUptoRow.holds Tryd.pinned (OpenSpec.upto resultBackSpec)

/-- 'juratlaw22.WorkerOrders', WHERE WHAT IT READS IS OF BULK AT MOST 1048576: true; the input reads as it did. -/
def workerOrdersUptoRow : OpenClaim := { program := "ytnnkgdijaekcfaadoor", sum := "ef407daadc8627301b165ac7499ae5f9a4c8c4b555f12b42c7ca0e305a00c55c", func := "jurat/juratlaw22.WorkerOrders", spec := "workerOrders", unfollowed := true, recurses := true, named := ["jurat/sha.begin", "jurat/sha.k", "jurat/juratref02.first", "jurat/juratref02.constants"], apart := false, laid := [("jurat/juratref02.first", laid_jurat_juratref02_first), ("jurat/juratref02.constants", laid_jurat_juratref02_constants), ("jurat/sha.k", laid_jurat_sha_k), ("jurat/sha.begin", laid_jurat_sha_begin)], narrowed := true }
def WorkerOrdersUptoSaid : Prop := workerOrdersUptoRow.holds Tryd.pinned (OpenSpec.upto workerOrdersSpec)

/-- 'juratlaw22.WorkerRefuses', WHERE WHAT IT READS IS OF BULK AT MOST 1048576: true; the input reads as it did. -/
def workerRefusesUptoRow : OpenClaim := { program := "ytnnkgdijaekcfaadoor", sum := "ef407daadc8627301b165ac7499ae5f9a4c8c4b555f12b42c7ca0e305a00c55c", func := "jurat/juratlaw22.WorkerRefuses", spec := "workerRefuses", unfollowed := true, recurses := true, named := ["jurat/sha.begin", "jurat/sha.k", "jurat/juratref02.first", "jurat/juratref02.constants"], apart := false, laid := [("jurat/juratref02.first", laid_jurat_juratref02_first), ("jurat/juratref02.constants", laid_jurat_juratref02_constants), ("jurat/sha.k", laid_jurat_sha_k), ("jurat/sha.begin", laid_jurat_sha_begin)], narrowed := true }
def WorkerRefusesUptoSaid : Prop := workerRefusesUptoRow.holds Tryd.pinned (OpenSpec.upto workerRefusesSpec)

/-- 'juratlaw22.WorkerNil', WHERE WHAT IT READS IS OF BULK AT MOST 1048576: true; the input reads as it did. -/
def workerNilUptoRow : OpenClaim := { program := "ytnnkgdijaekcfaadoor", sum := "ef407daadc8627301b165ac7499ae5f9a4c8c4b555f12b42c7ca0e305a00c55c", func := "jurat/juratlaw22.WorkerNil", spec := "workerNil", unfollowed := true, recurses := true, named := ["jurat/sha.begin", "jurat/sha.k"], apart := false, laid := [("jurat/sha.k", laid_jurat_sha_k), ("jurat/sha.begin", laid_jurat_sha_begin)], narrowed := true }
def WorkerNilUptoSaid : Prop := workerNilUptoRow.holds Tryd.pinned (OpenSpec.upto workerNilSpec)

/-- 'juratlaw22.WorkerOnce', WHERE WHAT IT READS IS OF BULK AT MOST 1048576: true; the input reads as it did. -/
def workerOnceUptoRow : OpenClaim := { program := "ytnnkgdijaekcfaadoor", sum := "ef407daadc8627301b165ac7499ae5f9a4c8c4b555f12b42c7ca0e305a00c55c", func := "jurat/juratlaw22.WorkerOnce", spec := "workerOnce", unfollowed := true, recurses := true, named := ["jurat/sha.begin", "jurat/sha.k", "jurat/juratref02.first", "jurat/juratref02.constants"], apart := false, laid := [("jurat/juratref02.first", laid_jurat_juratref02_first), ("jurat/juratref02.constants", laid_jurat_juratref02_constants), ("jurat/sha.k", laid_jurat_sha_k), ("jurat/sha.begin", laid_jurat_sha_begin)], narrowed := true }
def WorkerOnceUptoSaid : Prop := workerOnceUptoRow.holds Tryd.pinned (OpenSpec.upto workerOnceSpec)

/-- 'juratlaw22.WorkerRight', WHERE WHAT IT READS IS OF BULK AT MOST 1048576: true; the input reads as it did. -/
def workerRightUptoRow : OpenClaim := { program := "ytnnkgdijaekcfaadoor", sum := "ef407daadc8627301b165ac7499ae5f9a4c8c4b555f12b42c7ca0e305a00c55c", func := "jurat/juratlaw22.WorkerRight", spec := "workerRight", unfollowed := true, recurses := true, named := ["jurat/sha.begin", "jurat/sha.k"], apart := false, laid := [("jurat/sha.k", laid_jurat_sha_k), ("jurat/sha.begin", laid_jurat_sha_begin)], narrowed := true }
def WorkerRightUptoSaid : Prop := workerRightUptoRow.holds Tryd.pinned (OpenSpec.upto workerRightSpec)

end Rows
end Go.Proofs.YtnnkgdijaekcfaaDoor
