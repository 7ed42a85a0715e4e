/-
  NARROWER THAN 'FOR EVERY INPUT', by the rows' own cells (each row's printed sentence says how): FrameWraps: laid · FrameScans: laid · FrameBack: laid · FrameCuts: laid · FrameOne: laid · TokenChecks: laid · TokenBack: laid · TokenCuts: laid · TokenApart: laid · TokenMakes: laid.
  DERIVED. THE GIVEN ROWS OF THIS SEAT. 10 by the template 'for every input the law returns true; each argument reads behind the call as it read before'; 0 by the template 'total and deterministic' (their statements: YtokcbfklogjnfaaDoorTotals.lean).
  GIVEN WITH THE SEED: the statements are not yours to turn. If you find one false, say at which input.
  Laid BY PROGRAM, IN A SANDBOX (cutbox-rows.mjs): the forced cells as the released guide's own fill.sh prints them over the translation 423eeed067978cf4… (all of the seat's roots in one cut). By AI agents, Wed Nov 11 2026. No macro, syntax, notation, axiom, sorry.
-/
import Derived.Test.YtokcbfklogjnfaaDoorChecked
import GoSem.Claim
import GoSem.ClaimJoined
import GoSem.ClaimMapViews
import Derived.JoinedTies
import Derived.KernelRfl
namespace Go.Proofs.YtokcbfklogjnfaaDoor
/- THE CELL 'sum', in the pinned program and in every row, IS THE sha256 OF THE DUMP (.gsa) THAT YtokcbfklogjnfaaDoorProg.lean LOADS. Nothing in Lean hashes anything: it is a label: what it is worth is what the hold of that sum in a sandbox is worth. -/
noncomputable def Tryd.pinned : Pinned := { name := "ytokcbfklogjnfaadoor", sum := "423eeed067978cf410fdb56786b0582fe8fb5836b5be751e0bb0d221deb90227", checked := Tryd.checked }
namespace Rows
def none {H : Type} : Left H := { results := [], args := [] }

/- WHAT THE LISTED PACKAGE-LEVEL VARIABLES READ AS WHEN THE CALL BEGINS. Each datum BY PROGRAM (the guide's laid-datum.mjs) off the statement by which the dump's own 'gosem.cut.vars' lays the variable. In a bare row this is a premise. The card (YtokcbfklogjnfaaDoorCards.lean) ties it to the program's text. -/
def laid_jurat_juratref02_first {H : Type} : DataW H := .agg [.lit (.int .u32 1779033703), .lit (.int .u32 3144134277), .lit (.int .u32 1013904242), .lit (.int .u32 2773480762), .lit (.int .u32 1359893119), .lit (.int .u32 2600822924), .lit (.int .u32 528734635), .lit (.int .u32 1541459225)]
def laid_jurat_juratref02_constants {H : Type} : DataW H := .agg [.lit (.int .u32 1116352408), .lit (.int .u32 1899447441), .lit (.int .u32 3049323471), .lit (.int .u32 3921009573), .lit (.int .u32 961987163), .lit (.int .u32 1508970993), .lit (.int .u32 2453635748), .lit (.int .u32 2870763221), .lit (.int .u32 3624381080), .lit (.int .u32 310598401), .lit (.int .u32 607225278), .lit (.int .u32 1426881987), .lit (.int .u32 1925078388), .lit (.int .u32 2162078206), .lit (.int .u32 2614888103), .lit (.int .u32 3248222580), .lit (.int .u32 3835390401), .lit (.int .u32 4022224774), .lit (.int .u32 264347078), .lit (.int .u32 604807628), .lit (.int .u32 770255983), .lit (.int .u32 1249150122), .lit (.int .u32 1555081692), .lit (.int .u32 1996064986), .lit (.int .u32 2554220882), .lit (.int .u32 2821834349), .lit (.int .u32 2952996808), .lit (.int .u32 3210313671), .lit (.int .u32 3336571891), .lit (.int .u32 3584528711), .lit (.int .u32 113926993), .lit (.int .u32 338241895), .lit (.int .u32 666307205), .lit (.int .u32 773529912), .lit (.int .u32 1294757372), .lit (.int .u32 1396182291), .lit (.int .u32 1695183700), .lit (.int .u32 1986661051), .lit (.int .u32 2177026350), .lit (.int .u32 2456956037), .lit (.int .u32 2730485921), .lit (.int .u32 2820302411), .lit (.int .u32 3259730800), .lit (.int .u32 3345764771), .lit (.int .u32 3516065817), .lit (.int .u32 3600352804), .lit (.int .u32 4094571909), .lit (.int .u32 275423344), .lit (.int .u32 430227734), .lit (.int .u32 506948616), .lit (.int .u32 659060556), .lit (.int .u32 883997877), .lit (.int .u32 958139571), .lit (.int .u32 1322822218), .lit (.int .u32 1537002063), .lit (.int .u32 1747873779), .lit (.int .u32 1955562222), .lit (.int .u32 2024104815), .lit (.int .u32 2227730452), .lit (.int .u32 2361852424), .lit (.int .u32 2428436474), .lit (.int .u32 2756734187), .lit (.int .u32 3204031479), .lit (.int .u32 3329325298)]
def laid_jurat_sha_k {H : Type} : DataW H := .agg [.lit (.int .u32 1116352408), .lit (.int .u32 1899447441), .lit (.int .u32 3049323471), .lit (.int .u32 3921009573), .lit (.int .u32 961987163), .lit (.int .u32 1508970993), .lit (.int .u32 2453635748), .lit (.int .u32 2870763221), .lit (.int .u32 3624381080), .lit (.int .u32 310598401), .lit (.int .u32 607225278), .lit (.int .u32 1426881987), .lit (.int .u32 1925078388), .lit (.int .u32 2162078206), .lit (.int .u32 2614888103), .lit (.int .u32 3248222580), .lit (.int .u32 3835390401), .lit (.int .u32 4022224774), .lit (.int .u32 264347078), .lit (.int .u32 604807628), .lit (.int .u32 770255983), .lit (.int .u32 1249150122), .lit (.int .u32 1555081692), .lit (.int .u32 1996064986), .lit (.int .u32 2554220882), .lit (.int .u32 2821834349), .lit (.int .u32 2952996808), .lit (.int .u32 3210313671), .lit (.int .u32 3336571891), .lit (.int .u32 3584528711), .lit (.int .u32 113926993), .lit (.int .u32 338241895), .lit (.int .u32 666307205), .lit (.int .u32 773529912), .lit (.int .u32 1294757372), .lit (.int .u32 1396182291), .lit (.int .u32 1695183700), .lit (.int .u32 1986661051), .lit (.int .u32 2177026350), .lit (.int .u32 2456956037), .lit (.int .u32 2730485921), .lit (.int .u32 2820302411), .lit (.int .u32 3259730800), .lit (.int .u32 3345764771), .lit (.int .u32 3516065817), .lit (.int .u32 3600352804), .lit (.int .u32 4094571909), .lit (.int .u32 275423344), .lit (.int .u32 430227734), .lit (.int .u32 506948616), .lit (.int .u32 659060556), .lit (.int .u32 883997877), .lit (.int .u32 958139571), .lit (.int .u32 1322822218), .lit (.int .u32 1537002063), .lit (.int .u32 1747873779), .lit (.int .u32 1955562222), .lit (.int .u32 2024104815), .lit (.int .u32 2227730452), .lit (.int .u32 2361852424), .lit (.int .u32 2428436474), .lit (.int .u32 2756734187), .lit (.int .u32 3204031479), .lit (.int .u32 3329325298)]
def laid_jurat_sha_begin {H : Type} : DataW H := .agg [.lit (.int .u32 1779033703), .lit (.int .u32 3144134277), .lit (.int .u32 1013904242), .lit (.int .u32 2773480762), .lit (.int .u32 1359893119), .lit (.int .u32 2600822924), .lit (.int .u32 528734635), .lit (.int .u32 1541459225)]

/-- 'juratlaw11.FrameWraps': WHATEVER THE INPUT: true; the input reads as it did. -/
def frameWrapsSpec : ChangeSpec := { name := "frameWraps", fn := fun _ => fun
  | [d1, d2] => { results := [.lit (.bool true)], args := [d1, d2] }
  | _ => none }
def frameWrapsRow : OpenClaim := { program := "ytokcbfklogjnfaadoor", sum := "423eeed067978cf410fdb56786b0582fe8fb5836b5be751e0bb0d221deb90227", func := "jurat/juratlaw11.FrameWraps", spec := "frameWraps", unfollowed := true, recurses := true, named := ["jurat/sha.begin", "jurat/sha.k", "jurat/juratref02.first", "jurat/juratref02.constants"], apart := false, laid := [("jurat/juratref02.first", laid_jurat_juratref02_first), ("jurat/juratref02.constants", laid_jurat_juratref02_constants), ("jurat/sha.k", laid_jurat_sha_k), ("jurat/sha.begin", laid_jurat_sha_begin)] }
def FrameWrapsSaid : Prop := frameWrapsRow.holds Tryd.pinned (OpenSpec.ofChange frameWrapsSpec)

/-- ITS FALSE NEIGHBOUR: 'it returns false'. Refute it at one input. -/
def frameWrapsWrong : ChangeSpec := { name := "frameWraps", fn := fun _ => fun
  | [d1, d2] => { results := [.lit (.bool false)], args := [d1, d2] }
  | _ => none }
def FrameWrapsWrongFalsely : Prop := frameWrapsRow.holds Tryd.pinned (OpenSpec.ofChange frameWrapsWrong)

/-- 'juratlaw11.FrameScans': WHATEVER THE INPUT: true; the input reads as it did. -/
def frameScansSpec : ChangeSpec := { name := "frameScans", fn := fun _ => fun
  | [d] => { results := [.lit (.bool true)], args := [d] }
  | _ => none }
def frameScansRow : OpenClaim := { program := "ytokcbfklogjnfaadoor", sum := "423eeed067978cf410fdb56786b0582fe8fb5836b5be751e0bb0d221deb90227", func := "jurat/juratlaw11.FrameScans", spec := "frameScans", unfollowed := true, recurses := true, named := ["jurat/sha.begin", "jurat/sha.k", "jurat/juratref02.first", "jurat/juratref02.constants"], apart := false, laid := [("jurat/juratref02.first", laid_jurat_juratref02_first), ("jurat/juratref02.constants", laid_jurat_juratref02_constants), ("jurat/sha.k", laid_jurat_sha_k), ("jurat/sha.begin", laid_jurat_sha_begin)] }
def FrameScansSaid : Prop := frameScansRow.holds Tryd.pinned (OpenSpec.ofChange frameScansSpec)

/-- ITS FALSE NEIGHBOUR: 'it returns false'. Refute it at one input. -/
def frameScansWrong : ChangeSpec := { name := "frameScans", fn := fun _ => fun
  | [d] => { results := [.lit (.bool false)], args := [d] }
  | _ => none }
def FrameScansWrongFalsely : Prop := frameScansRow.holds Tryd.pinned (OpenSpec.ofChange frameScansWrong)

/-- 'juratlaw11.FrameBack': WHATEVER THE INPUT: true; the input reads as it did. -/
def frameBackSpec : ChangeSpec := { name := "frameBack", fn := fun _ => fun
  | [d1, d2] => { results := [.lit (.bool true)], args := [d1, d2] }
  | _ => none }
def frameBackRow : OpenClaim := { program := "ytokcbfklogjnfaadoor", sum := "423eeed067978cf410fdb56786b0582fe8fb5836b5be751e0bb0d221deb90227", func := "jurat/juratlaw11.FrameBack", spec := "frameBack", unfollowed := true, recurses := true, named := ["jurat/sha.begin", "jurat/sha.k"], apart := false, laid := [("jurat/sha.k", laid_jurat_sha_k), ("jurat/sha.begin", laid_jurat_sha_begin)] }
def FrameBackSaid : Prop := frameBackRow.holds Tryd.pinned (OpenSpec.ofChange frameBackSpec)

/-- ITS FALSE NEIGHBOUR: 'it returns false'. Refute it at one input. -/
def frameBackWrong : ChangeSpec := { name := "frameBack", fn := fun _ => fun
  | [d1, d2] => { results := [.lit (.bool false)], args := [d1, d2] }
  | _ => none }
def FrameBackWrongFalsely : Prop := frameBackRow.holds Tryd.pinned (OpenSpec.ofChange frameBackWrong)

/-- 'juratlaw11.FrameCuts': WHATEVER THE INPUT: true; the input reads as it did. -/
def frameCutsSpec : ChangeSpec := { name := "frameCuts", fn := fun _ => fun
  | [d1, d2] => { results := [.lit (.bool true)], args := [d1, d2] }
  | _ => none }
def frameCutsRow : OpenClaim := { program := "ytokcbfklogjnfaadoor", sum := "423eeed067978cf410fdb56786b0582fe8fb5836b5be751e0bb0d221deb90227", func := "jurat/juratlaw11.FrameCuts", spec := "frameCuts", unfollowed := true, recurses := true, named := ["jurat/sha.begin", "jurat/sha.k"], apart := false, laid := [("jurat/sha.k", laid_jurat_sha_k), ("jurat/sha.begin", laid_jurat_sha_begin)] }
def FrameCutsSaid : Prop := frameCutsRow.holds Tryd.pinned (OpenSpec.ofChange frameCutsSpec)

/-- ITS FALSE NEIGHBOUR: 'it returns false'. Refute it at one input. -/
def frameCutsWrong : ChangeSpec := { name := "frameCuts", fn := fun _ => fun
  | [d1, d2] => { results := [.lit (.bool false)], args := [d1, d2] }
  | _ => none }
def FrameCutsWrongFalsely : Prop := frameCutsRow.holds Tryd.pinned (OpenSpec.ofChange frameCutsWrong)

/-- 'juratlaw11.FrameOne': WHATEVER THE INPUT: true; the input reads as it did. -/
def frameOneSpec : ChangeSpec := { name := "frameOne", fn := fun _ => fun
  | [d] => { results := [.lit (.bool true)], args := [d] }
  | _ => none }
def frameOneRow : OpenClaim := { program := "ytokcbfklogjnfaadoor", sum := "423eeed067978cf410fdb56786b0582fe8fb5836b5be751e0bb0d221deb90227", func := "jurat/juratlaw11.FrameOne", spec := "frameOne", unfollowed := true, recurses := true, named := ["jurat/sha.begin", "jurat/sha.k"], apart := false, laid := [("jurat/sha.k", laid_jurat_sha_k), ("jurat/sha.begin", laid_jurat_sha_begin)] }
def FrameOneSaid : Prop := frameOneRow.holds Tryd.pinned (OpenSpec.ofChange frameOneSpec)

/-- ITS FALSE NEIGHBOUR: 'it returns false'. Refute it at one input. -/
def frameOneWrong : ChangeSpec := { name := "frameOne", fn := fun _ => fun
  | [d] => { results := [.lit (.bool false)], args := [d] }
  | _ => none }
def FrameOneWrongFalsely : Prop := frameOneRow.holds Tryd.pinned (OpenSpec.ofChange frameOneWrong)

/-- 'juratlaw17.TokenChecks': WHATEVER THE INPUT: true; the input reads as it did. -/
def tokenChecksSpec : ChangeSpec := { name := "tokenChecks", fn := fun _ => fun
  | [d1, d2] => { results := [.lit (.bool true)], args := [d1, d2] }
  | _ => none }
def tokenChecksRow : OpenClaim := { program := "ytokcbfklogjnfaadoor", sum := "423eeed067978cf410fdb56786b0582fe8fb5836b5be751e0bb0d221deb90227", func := "jurat/juratlaw17.TokenChecks", spec := "tokenChecks", unfollowed := true, recurses := true, named := ["jurat/sha.begin", "jurat/sha.k", "jurat/juratref02.first", "jurat/juratref02.constants"], apart := false, laid := [("jurat/juratref02.first", laid_jurat_juratref02_first), ("jurat/juratref02.constants", laid_jurat_juratref02_constants), ("jurat/sha.k", laid_jurat_sha_k), ("jurat/sha.begin", laid_jurat_sha_begin)] }
def TokenChecksSaid : Prop := tokenChecksRow.holds Tryd.pinned (OpenSpec.ofChange tokenChecksSpec)

/-- ITS FALSE NEIGHBOUR: 'it returns false'. Refute it at one input. -/
def tokenChecksWrong : ChangeSpec := { name := "tokenChecks", fn := fun _ => fun
  | [d1, d2] => { results := [.lit (.bool false)], args := [d1, d2] }
  | _ => none }
def TokenChecksWrongFalsely : Prop := tokenChecksRow.holds Tryd.pinned (OpenSpec.ofChange tokenChecksWrong)

/-- 'juratlaw17.TokenBack': WHATEVER THE INPUT: true; the input reads as it did. -/
def tokenBackSpec : ChangeSpec := { name := "tokenBack", fn := fun _ => fun
  | [d1, d2, d3] => { results := [.lit (.bool true)], args := [d1, d2, d3] }
  | _ => none }
def tokenBackRow : OpenClaim := { program := "ytokcbfklogjnfaadoor", sum := "423eeed067978cf410fdb56786b0582fe8fb5836b5be751e0bb0d221deb90227", func := "jurat/juratlaw17.TokenBack", spec := "tokenBack", unfollowed := true, recurses := true, named := ["jurat/sha.begin", "jurat/sha.k"], apart := false, laid := [("jurat/sha.k", laid_jurat_sha_k), ("jurat/sha.begin", laid_jurat_sha_begin)] }
def TokenBackSaid : Prop := tokenBackRow.holds Tryd.pinned (OpenSpec.ofChange tokenBackSpec)

/-- ITS FALSE NEIGHBOUR: 'it returns false'. Refute it at one input. -/
def tokenBackWrong : ChangeSpec := { name := "tokenBack", fn := fun _ => fun
  | [d1, d2, d3] => { results := [.lit (.bool false)], args := [d1, d2, d3] }
  | _ => none }
def TokenBackWrongFalsely : Prop := tokenBackRow.holds Tryd.pinned (OpenSpec.ofChange tokenBackWrong)

/-- 'juratlaw17.TokenCuts': WHATEVER THE INPUT: true; the input reads as it did. -/
def tokenCutsSpec : ChangeSpec := { name := "tokenCuts", fn := fun _ => fun
  | [d1, d2, d3] => { results := [.lit (.bool true)], args := [d1, d2, d3] }
  | _ => none }
def tokenCutsRow : OpenClaim := { program := "ytokcbfklogjnfaadoor", sum := "423eeed067978cf410fdb56786b0582fe8fb5836b5be751e0bb0d221deb90227", func := "jurat/juratlaw17.TokenCuts", spec := "tokenCuts", unfollowed := true, recurses := true, named := ["jurat/sha.begin", "jurat/sha.k"], apart := false, laid := [("jurat/sha.k", laid_jurat_sha_k), ("jurat/sha.begin", laid_jurat_sha_begin)] }
def TokenCutsSaid : Prop := tokenCutsRow.holds Tryd.pinned (OpenSpec.ofChange tokenCutsSpec)

/-- ITS FALSE NEIGHBOUR: 'it returns false'. Refute it at one input. -/
def tokenCutsWrong : ChangeSpec := { name := "tokenCuts", fn := fun _ => fun
  | [d1, d2, d3] => { results := [.lit (.bool false)], args := [d1, d2, d3] }
  | _ => none }
def TokenCutsWrongFalsely : Prop := tokenCutsRow.holds Tryd.pinned (OpenSpec.ofChange tokenCutsWrong)

/-- 'juratlaw17.TokenApart': WHATEVER THE INPUT: true; the input reads as it did. -/
def tokenApartSpec : ChangeSpec := { name := "tokenApart", fn := fun _ => fun
  | [d1, d2, d3] => { results := [.lit (.bool true)], args := [d1, d2, d3] }
  | _ => none }
def tokenApartRow : OpenClaim := { program := "ytokcbfklogjnfaadoor", sum := "423eeed067978cf410fdb56786b0582fe8fb5836b5be751e0bb0d221deb90227", func := "jurat/juratlaw17.TokenApart", spec := "tokenApart", unfollowed := true, recurses := true, named := ["jurat/sha.begin", "jurat/sha.k"], apart := false, laid := [("jurat/sha.k", laid_jurat_sha_k), ("jurat/sha.begin", laid_jurat_sha_begin)] }
def TokenApartSaid : Prop := tokenApartRow.holds Tryd.pinned (OpenSpec.ofChange tokenApartSpec)

/-- ITS FALSE NEIGHBOUR: 'it returns false'. Refute it at one input. -/
def tokenApartWrong : ChangeSpec := { name := "tokenApart", fn := fun _ => fun
  | [d1, d2, d3] => { results := [.lit (.bool false)], args := [d1, d2, d3] }
  | _ => none }
def TokenApartWrongFalsely : Prop := tokenApartRow.holds Tryd.pinned (OpenSpec.ofChange tokenApartWrong)

/-- 'juratlaw17.TokenMakes': WHATEVER THE INPUT: true; the input reads as it did. -/
def tokenMakesSpec : ChangeSpec := { name := "tokenMakes", fn := fun _ => fun
  | [d1, d2, d3] => { results := [.lit (.bool true)], args := [d1, d2, d3] }
  | _ => none }
def tokenMakesRow : OpenClaim := { program := "ytokcbfklogjnfaadoor", sum := "423eeed067978cf410fdb56786b0582fe8fb5836b5be751e0bb0d221deb90227", func := "jurat/juratlaw17.TokenMakes", spec := "tokenMakes", unfollowed := true, recurses := true, named := ["jurat/sha.begin", "jurat/sha.k", "jurat/juratref02.first", "jurat/juratref02.constants"], apart := false, laid := [("jurat/juratref02.first", laid_jurat_juratref02_first), ("jurat/juratref02.constants", laid_jurat_juratref02_constants), ("jurat/sha.k", laid_jurat_sha_k), ("jurat/sha.begin", laid_jurat_sha_begin)] }
def TokenMakesSaid : Prop := tokenMakesRow.holds Tryd.pinned (OpenSpec.ofChange tokenMakesSpec)

/-- ITS FALSE NEIGHBOUR: 'it returns false'. Refute it at one input. -/
def tokenMakesWrong : ChangeSpec := { name := "tokenMakes", fn := fun _ => fun
  | [d1, d2, d3] => { results := [.lit (.bool false)], args := [d1, d2, d3] }
  | _ => none }
def TokenMakesWrongFalsely : Prop := tokenMakesRow.holds Tryd.pinned (OpenSpec.ofChange tokenMakesWrong)

/- THE SECOND FORM. 'bulk': how many values and letters a reading holds, each counted each time it is reached (what is shared counts as often as it is met; a slice's spare places count too). A statement '..UptoSaid' is the law's where the arguments, and the package variables that the reading takes, are together of bulk at most 1048576: NARROWER than '..Said'. Prove '..Said' where nothing that the law and all that it calls make is longer than what came in: it says more and counts as full. Else prove '..UptoSaid'. A law counts once. -/
mutual
def uptoBulk {H : Type} : DataW H → Nat
  | .lit (.string bytes) => bytes.length + 1
  | .lit _ => 1
  | .nil => 1
  | .ptr d => uptoBulk d + 1
  | .slice elems spare => uptoBulkAll elems + uptoBulkAll spare + 1
  | .agg parts => uptoBulkAll parts + 1
  | .iface _ d => uptoBulk d + 1
  | .map entries => uptoBulkEntries entries + 1
  | .held _ => 1
def uptoBulkAll {H : Type} : List (DataW H) → Nat
  | [] => 0
  | d :: r => uptoBulk d + uptoBulkAll r
def uptoBulkEntries {H : Type} : List (Lit × DataW H) → Nat
  | [] => 0
  | x :: r => uptoBulkEntry x + uptoBulkEntries r
def uptoBulkEntry {H : Type} : Lit × DataW H → Nat
  | (.string bytes, d) => bytes.length + uptoBulk d + 1
  | (_, d) => uptoBulk d + 1
 end
def uptoSmall : (H : Type) → List (DataW H) → Bool := fun _ ds => decide (uptoBulkAll ds ≤ 1048576)
def OpenSpec.upto (s : _root_.Go.ChangeSpec) : _root_.Go.OpenSpec := { _root_.Go.OpenSpec.ofChange s with cond := some uptoSmall }

/-- 'juratlaw11.FrameWraps', WHERE WHAT IT READS IS OF BULK AT MOST 1048576: true; the input reads as it did. -/
def frameWrapsUptoRow : OpenClaim := { program := "ytokcbfklogjnfaadoor", sum := "423eeed067978cf410fdb56786b0582fe8fb5836b5be751e0bb0d221deb90227", func := "jurat/juratlaw11.FrameWraps", spec := "frameWraps", unfollowed := true, recurses := true, named := ["jurat/sha.begin", "jurat/sha.k", "jurat/juratref02.first", "jurat/juratref02.constants"], apart := false, laid := [("jurat/juratref02.first", laid_jurat_juratref02_first), ("jurat/juratref02.constants", laid_jurat_juratref02_constants), ("jurat/sha.k", laid_jurat_sha_k), ("jurat/sha.begin", laid_jurat_sha_begin)], narrowed := true }
def FrameWrapsUptoSaid : Prop := frameWrapsUptoRow.holds Tryd.pinned (OpenSpec.upto frameWrapsSpec)

/-- 'juratlaw11.FrameScans', WHERE WHAT IT READS IS OF BULK AT MOST 1048576: true; the input reads as it did. -/
def frameScansUptoRow : OpenClaim := { program := "ytokcbfklogjnfaadoor", sum := "423eeed067978cf410fdb56786b0582fe8fb5836b5be751e0bb0d221deb90227", func := "jurat/juratlaw11.FrameScans", spec := "frameScans", unfollowed := true, recurses := true, named := ["jurat/sha.begin", "jurat/sha.k", "jurat/juratref02.first", "jurat/juratref02.constants"], apart := false, laid := [("jurat/juratref02.first", laid_jurat_juratref02_first), ("jurat/juratref02.constants", laid_jurat_juratref02_constants), ("jurat/sha.k", laid_jurat_sha_k), ("jurat/sha.begin", laid_jurat_sha_begin)], narrowed := true }
def FrameScansUptoSaid : Prop := frameScansUptoRow.holds Tryd.pinned (OpenSpec.upto frameScansSpec)

/-- 'juratlaw11.FrameBack', WHERE WHAT IT READS IS OF BULK AT MOST 1048576: true; the input reads as it did. -/
def frameBackUptoRow : OpenClaim := { program := "ytokcbfklogjnfaadoor", sum := "423eeed067978cf410fdb56786b0582fe8fb5836b5be751e0bb0d221deb90227", func := "jurat/juratlaw11.FrameBack", spec := "frameBack", unfollowed := true, recurses := true, named := ["jurat/sha.begin", "jurat/sha.k"], apart := false, laid := [("jurat/sha.k", laid_jurat_sha_k), ("jurat/sha.begin", laid_jurat_sha_begin)], narrowed := true }
def FrameBackUptoSaid : Prop := frameBackUptoRow.holds Tryd.pinned (OpenSpec.upto frameBackSpec)

/-- 'juratlaw11.FrameCuts', WHERE WHAT IT READS IS OF BULK AT MOST 1048576: true; the input reads as it did. -/
def frameCutsUptoRow : OpenClaim := { program := "ytokcbfklogjnfaadoor", sum := "423eeed067978cf410fdb56786b0582fe8fb5836b5be751e0bb0d221deb90227", func := "jurat/juratlaw11.FrameCuts", spec := "frameCuts", unfollowed := true, recurses := true, named := ["jurat/sha.begin", "jurat/sha.k"], apart := false, laid := [("jurat/sha.k", laid_jurat_sha_k), ("jurat/sha.begin", laid_jurat_sha_begin)], narrowed := true }
def FrameCutsUptoSaid : Prop := frameCutsUptoRow.holds Tryd.pinned (OpenSpec.upto frameCutsSpec)

/-- 'juratlaw11.FrameOne', WHERE WHAT IT READS IS OF BULK AT MOST 1048576: true; the input reads as it did. -/
def frameOneUptoRow : OpenClaim := { program := "ytokcbfklogjnfaadoor", sum := "423eeed067978cf410fdb56786b0582fe8fb5836b5be751e0bb0d221deb90227", func := "jurat/juratlaw11.FrameOne", spec := "frameOne", unfollowed := true, recurses := true, named := ["jurat/sha.begin", "jurat/sha.k"], apart := false, laid := [("jurat/sha.k", laid_jurat_sha_k), ("jurat/sha.begin", laid_jurat_sha_begin)], narrowed := true }
def FrameOneUptoSaid : Prop := frameOneUptoRow.holds Tryd.pinned (OpenSpec.upto frameOneSpec)

/-- 'juratlaw17.TokenChecks', WHERE WHAT IT READS IS OF BULK AT MOST 1048576: true; the input reads as it did. -/
def tokenChecksUptoRow : OpenClaim := { program := "ytokcbfklogjnfaadoor", sum := "423eeed067978cf410fdb56786b0582fe8fb5836b5be751e0bb0d221deb90227", func := "jurat/juratlaw17.TokenChecks", spec := "tokenChecks", unfollowed := true, recurses := true, named := ["jurat/sha.begin", "jurat/sha.k", "jurat/juratref02.first", "jurat/juratref02.constants"], apart := false, laid := [("jurat/juratref02.first", laid_jurat_juratref02_first), ("jurat/juratref02.constants", laid_jurat_juratref02_constants), ("jurat/sha.k", laid_jurat_sha_k), ("jurat/sha.begin", laid_jurat_sha_begin)], narrowed := true }
def TokenChecksUptoSaid : Prop := tokenChecksUptoRow.holds Tryd.pinned (OpenSpec.upto tokenChecksSpec)

/-- 'juratlaw17.TokenBack', WHERE WHAT IT READS IS OF BULK AT MOST 1048576: true; the input reads as it did. -/
def tokenBackUptoRow : OpenClaim := { program := "ytokcbfklogjnfaadoor", sum := "423eeed067978cf410fdb56786b0582fe8fb5836b5be751e0bb0d221deb90227", func := "jurat/juratlaw17.TokenBack", spec := "tokenBack", unfollowed := true, recurses := true, named := ["jurat/sha.begin", "jurat/sha.k"], apart := false, laid := [("jurat/sha.k", laid_jurat_sha_k), ("jurat/sha.begin", laid_jurat_sha_begin)], narrowed := true }
def TokenBackUptoSaid : Prop := tokenBackUptoRow.holds Tryd.pinned (OpenSpec.upto tokenBackSpec)

/-- 'juratlaw17.TokenCuts', WHERE WHAT IT READS IS OF BULK AT MOST 1048576: true; the input reads as it did. -/
def tokenCutsUptoRow : OpenClaim := { program := "ytokcbfklogjnfaadoor", sum := "423eeed067978cf410fdb56786b0582fe8fb5836b5be751e0bb0d221deb90227", func := "jurat/juratlaw17.TokenCuts", spec := "tokenCuts", unfollowed := true, recurses := true, named := ["jurat/sha.begin", "jurat/sha.k"], apart := false, laid := [("jurat/sha.k", laid_jurat_sha_k), ("jurat/sha.begin", laid_jurat_sha_begin)], narrowed := true }
def TokenCutsUptoSaid : Prop := tokenCutsUptoRow.holds Tryd.pinned (OpenSpec.upto tokenCutsSpec)

/-- 'juratlaw17.TokenApart', WHERE WHAT IT READS IS OF BULK AT MOST 1048576: true; the input reads as it did. -/
def tokenApartUptoRow : OpenClaim := { program := "ytokcbfklogjnfaadoor", sum := "423eeed067978cf410fdb56786b0582fe8fb5836b5be751e0bb0d221deb90227", func := "jurat/juratlaw17.TokenApart", spec := "tokenApart", unfollowed := true, recurses := true, named := ["jurat/sha.begin", "jurat/sha.k"], apart := false, laid := [("jurat/sha.k", laid_jurat_sha_k), ("jurat/sha.begin", laid_jurat_sha_begin)], narrowed := true }
def TokenApartUptoSaid : Prop := tokenApartUptoRow.holds Tryd.pinned (OpenSpec.upto tokenApartSpec)

/-- 'juratlaw17.TokenMakes', WHERE WHAT IT READS IS OF BULK AT MOST 1048576: true; the input reads as it did. -/
def tokenMakesUptoRow : OpenClaim := { program := "ytokcbfklogjnfaadoor", sum := "423eeed067978cf410fdb56786b0582fe8fb5836b5be751e0bb0d221deb90227", func := "jurat/juratlaw17.TokenMakes", spec := "tokenMakes", unfollowed := true, recurses := true, named := ["jurat/sha.begin", "jurat/sha.k", "jurat/juratref02.first", "jurat/juratref02.constants"], apart := false, laid := [("jurat/juratref02.first", laid_jurat_juratref02_first), ("jurat/juratref02.constants", laid_jurat_juratref02_constants), ("jurat/sha.k", laid_jurat_sha_k), ("jurat/sha.begin", laid_jurat_sha_begin)], narrowed := true }
def TokenMakesUptoSaid : Prop := tokenMakesUptoRow.holds Tryd.pinned (OpenSpec.upto tokenMakesSpec)

end Rows
end Go.Proofs.YtokcbfklogjnfaaDoor
