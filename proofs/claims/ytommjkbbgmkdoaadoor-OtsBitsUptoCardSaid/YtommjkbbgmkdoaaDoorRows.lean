/-
  NARROWER THAN 'FOR EVERY INPUT', by the rows' own cells (each row's printed sentence says how): TreeRoots: laid · TreeHalves: laid · TreePaths: laid · TreeClimbs: laid · TreeParts: laid · TreeBack: laid · OtsMakes: laid · OtsSigns: laid · OtsBack: laid · OtsTells: laid · OtsShows: laid · OtsBits: laid.
  DERIVED. THE GIVEN ROWS OF THIS SEAT. 12 by the template 'for every input the law returns true; each argument reads behind the call as it read before'; 0 by the template 'total and deterministic' (their statements: YtommjkbbgmkdoaaDoorTotals.lean).
  GIVEN WITH THE SEED: the statements are not yours to turn. If you find one false, say at which input.
  Laid BY PROGRAM, IN A SANDBOX (cutbox-rows.mjs): the forced cells as the released guide's own fill.sh prints them over the translation 7924fe03e35406b6… (all of the seat's roots in one cut). By AI agents, Wed Nov 11 2026. No macro, syntax, notation, axiom, sorry.
-/
import Derived.Test.YtommjkbbgmkdoaaDoorChecked
import GoSem.Claim
import GoSem.ClaimJoined
import GoSem.ClaimMapViews
import Derived.JoinedTies
import Derived.KernelRfl
namespace Go.Proofs.YtommjkbbgmkdoaaDoor
/- THE CELL 'sum', in the pinned program and in every row, IS THE sha256 OF THE DUMP (.gsa) THAT YtommjkbbgmkdoaaDoorProg.lean LOADS. Nothing in Lean hashes anything: it is a label: what it is worth is what the hold of that sum in a sandbox is worth. -/
noncomputable def Tryd.pinned : Pinned := { name := "ytommjkbbgmkdoaadoor", sum := "7924fe03e35406b6a292945d918491edca5dc6e397389934b8c41d07d7d05a8b", checked := Tryd.checked }
namespace Rows
def none {H : Type} : Left H := { results := [], args := [] }

/- WHAT THE LISTED PACKAGE-LEVEL VARIABLES READ AS WHEN THE CALL BEGINS. Each datum BY PROGRAM (the guide's laid-datum.mjs) off the statement by which the dump's own 'gosem.cut.vars' lays the variable. In a bare row this is a premise. The card (YtommjkbbgmkdoaaDoorCards.lean) ties it to the program's text. -/
def laid_jurat_juratref02_first {H : Type} : DataW H := .agg [.lit (.int .u32 1779033703), .lit (.int .u32 3144134277), .lit (.int .u32 1013904242), .lit (.int .u32 2773480762), .lit (.int .u32 1359893119), .lit (.int .u32 2600822924), .lit (.int .u32 528734635), .lit (.int .u32 1541459225)]
def laid_jurat_juratref02_constants {H : Type} : DataW H := .agg [.lit (.int .u32 1116352408), .lit (.int .u32 1899447441), .lit (.int .u32 3049323471), .lit (.int .u32 3921009573), .lit (.int .u32 961987163), .lit (.int .u32 1508970993), .lit (.int .u32 2453635748), .lit (.int .u32 2870763221), .lit (.int .u32 3624381080), .lit (.int .u32 310598401), .lit (.int .u32 607225278), .lit (.int .u32 1426881987), .lit (.int .u32 1925078388), .lit (.int .u32 2162078206), .lit (.int .u32 2614888103), .lit (.int .u32 3248222580), .lit (.int .u32 3835390401), .lit (.int .u32 4022224774), .lit (.int .u32 264347078), .lit (.int .u32 604807628), .lit (.int .u32 770255983), .lit (.int .u32 1249150122), .lit (.int .u32 1555081692), .lit (.int .u32 1996064986), .lit (.int .u32 2554220882), .lit (.int .u32 2821834349), .lit (.int .u32 2952996808), .lit (.int .u32 3210313671), .lit (.int .u32 3336571891), .lit (.int .u32 3584528711), .lit (.int .u32 113926993), .lit (.int .u32 338241895), .lit (.int .u32 666307205), .lit (.int .u32 773529912), .lit (.int .u32 1294757372), .lit (.int .u32 1396182291), .lit (.int .u32 1695183700), .lit (.int .u32 1986661051), .lit (.int .u32 2177026350), .lit (.int .u32 2456956037), .lit (.int .u32 2730485921), .lit (.int .u32 2820302411), .lit (.int .u32 3259730800), .lit (.int .u32 3345764771), .lit (.int .u32 3516065817), .lit (.int .u32 3600352804), .lit (.int .u32 4094571909), .lit (.int .u32 275423344), .lit (.int .u32 430227734), .lit (.int .u32 506948616), .lit (.int .u32 659060556), .lit (.int .u32 883997877), .lit (.int .u32 958139571), .lit (.int .u32 1322822218), .lit (.int .u32 1537002063), .lit (.int .u32 1747873779), .lit (.int .u32 1955562222), .lit (.int .u32 2024104815), .lit (.int .u32 2227730452), .lit (.int .u32 2361852424), .lit (.int .u32 2428436474), .lit (.int .u32 2756734187), .lit (.int .u32 3204031479), .lit (.int .u32 3329325298)]
def laid_jurat_sha_k {H : Type} : DataW H := .agg [.lit (.int .u32 1116352408), .lit (.int .u32 1899447441), .lit (.int .u32 3049323471), .lit (.int .u32 3921009573), .lit (.int .u32 961987163), .lit (.int .u32 1508970993), .lit (.int .u32 2453635748), .lit (.int .u32 2870763221), .lit (.int .u32 3624381080), .lit (.int .u32 310598401), .lit (.int .u32 607225278), .lit (.int .u32 1426881987), .lit (.int .u32 1925078388), .lit (.int .u32 2162078206), .lit (.int .u32 2614888103), .lit (.int .u32 3248222580), .lit (.int .u32 3835390401), .lit (.int .u32 4022224774), .lit (.int .u32 264347078), .lit (.int .u32 604807628), .lit (.int .u32 770255983), .lit (.int .u32 1249150122), .lit (.int .u32 1555081692), .lit (.int .u32 1996064986), .lit (.int .u32 2554220882), .lit (.int .u32 2821834349), .lit (.int .u32 2952996808), .lit (.int .u32 3210313671), .lit (.int .u32 3336571891), .lit (.int .u32 3584528711), .lit (.int .u32 113926993), .lit (.int .u32 338241895), .lit (.int .u32 666307205), .lit (.int .u32 773529912), .lit (.int .u32 1294757372), .lit (.int .u32 1396182291), .lit (.int .u32 1695183700), .lit (.int .u32 1986661051), .lit (.int .u32 2177026350), .lit (.int .u32 2456956037), .lit (.int .u32 2730485921), .lit (.int .u32 2820302411), .lit (.int .u32 3259730800), .lit (.int .u32 3345764771), .lit (.int .u32 3516065817), .lit (.int .u32 3600352804), .lit (.int .u32 4094571909), .lit (.int .u32 275423344), .lit (.int .u32 430227734), .lit (.int .u32 506948616), .lit (.int .u32 659060556), .lit (.int .u32 883997877), .lit (.int .u32 958139571), .lit (.int .u32 1322822218), .lit (.int .u32 1537002063), .lit (.int .u32 1747873779), .lit (.int .u32 1955562222), .lit (.int .u32 2024104815), .lit (.int .u32 2227730452), .lit (.int .u32 2361852424), .lit (.int .u32 2428436474), .lit (.int .u32 2756734187), .lit (.int .u32 3204031479), .lit (.int .u32 3329325298)]
def laid_jurat_sha_begin {H : Type} : DataW H := .agg [.lit (.int .u32 1779033703), .lit (.int .u32 3144134277), .lit (.int .u32 1013904242), .lit (.int .u32 2773480762), .lit (.int .u32 1359893119), .lit (.int .u32 2600822924), .lit (.int .u32 528734635), .lit (.int .u32 1541459225)]

/-- 'juratlaw06.TreeRoots': WHATEVER THE INPUT: true; the input reads as it did. -/
def treeRootsSpec : ChangeSpec := { name := "treeRoots", fn := fun _ => fun
  | [d1, d2, d3] => { results := [.lit (.bool true)], args := [d1, d2, d3] }
  | _ => none }
def treeRootsRow : OpenClaim := { program := "ytommjkbbgmkdoaadoor", sum := "7924fe03e35406b6a292945d918491edca5dc6e397389934b8c41d07d7d05a8b", func := "jurat/juratlaw06.TreeRoots", spec := "treeRoots", recurses := true, named := ["jurat/sha.begin", "jurat/sha.k", "jurat/juratref02.first", "jurat/juratref02.constants"], apart := false, laid := [("jurat/juratref02.first", laid_jurat_juratref02_first), ("jurat/juratref02.constants", laid_jurat_juratref02_constants), ("jurat/sha.k", laid_jurat_sha_k), ("jurat/sha.begin", laid_jurat_sha_begin)] }
def TreeRootsSaid : Prop := treeRootsRow.holds Tryd.pinned (OpenSpec.ofChange treeRootsSpec)

/-- ITS FALSE NEIGHBOUR: 'it returns false'. Refute it at one input. -/
def treeRootsWrong : ChangeSpec := { name := "treeRoots", fn := fun _ => fun
  | [d1, d2, d3] => { results := [.lit (.bool false)], args := [d1, d2, d3] }
  | _ => none }
def TreeRootsWrongFalsely : Prop := treeRootsRow.holds Tryd.pinned (OpenSpec.ofChange treeRootsWrong)

/-- 'juratlaw06.TreeHalves': WHATEVER THE INPUT: true; the input reads as it did. -/
def treeHalvesSpec : ChangeSpec := { name := "treeHalves", fn := fun _ => fun
  | [d] => { results := [.lit (.bool true)], args := [d] }
  | _ => none }
def treeHalvesRow : OpenClaim := { program := "ytommjkbbgmkdoaadoor", sum := "7924fe03e35406b6a292945d918491edca5dc6e397389934b8c41d07d7d05a8b", func := "jurat/juratlaw06.TreeHalves", spec := "treeHalves", named := ["jurat/sha.begin", "jurat/sha.k"], apart := false, laid := [("jurat/sha.k", laid_jurat_sha_k), ("jurat/sha.begin", laid_jurat_sha_begin)] }
def TreeHalvesSaid : Prop := treeHalvesRow.holds Tryd.pinned (OpenSpec.ofChange treeHalvesSpec)

/-- ITS FALSE NEIGHBOUR: 'it returns false'. Refute it at one input. -/
def treeHalvesWrong : ChangeSpec := { name := "treeHalves", fn := fun _ => fun
  | [d] => { results := [.lit (.bool false)], args := [d] }
  | _ => none }
def TreeHalvesWrongFalsely : Prop := treeHalvesRow.holds Tryd.pinned (OpenSpec.ofChange treeHalvesWrong)

/-- 'juratlaw06.TreePaths': WHATEVER THE INPUT: true; the input reads as it did. -/
def treePathsSpec : ChangeSpec := { name := "treePaths", fn := fun _ => fun
  | [d1, d2] => { results := [.lit (.bool true)], args := [d1, d2] }
  | _ => none }
def treePathsRow : OpenClaim := { program := "ytommjkbbgmkdoaadoor", sum := "7924fe03e35406b6a292945d918491edca5dc6e397389934b8c41d07d7d05a8b", func := "jurat/juratlaw06.TreePaths", spec := "treePaths", recurses := true, named := ["jurat/sha.begin", "jurat/sha.k", "jurat/juratref02.first", "jurat/juratref02.constants"], apart := false, laid := [("jurat/juratref02.first", laid_jurat_juratref02_first), ("jurat/juratref02.constants", laid_jurat_juratref02_constants), ("jurat/sha.k", laid_jurat_sha_k), ("jurat/sha.begin", laid_jurat_sha_begin)] }
def TreePathsSaid : Prop := treePathsRow.holds Tryd.pinned (OpenSpec.ofChange treePathsSpec)

/-- ITS FALSE NEIGHBOUR: 'it returns false'. Refute it at one input. -/
def treePathsWrong : ChangeSpec := { name := "treePaths", fn := fun _ => fun
  | [d1, d2] => { results := [.lit (.bool false)], args := [d1, d2] }
  | _ => none }
def TreePathsWrongFalsely : Prop := treePathsRow.holds Tryd.pinned (OpenSpec.ofChange treePathsWrong)

/-- 'juratlaw06.TreeClimbs': WHATEVER THE INPUT: true; the input reads as it did. -/
def treeClimbsSpec : ChangeSpec := { name := "treeClimbs", fn := fun _ => fun
  | [d1, d2, d3] => { results := [.lit (.bool true)], args := [d1, d2, d3] }
  | _ => none }
def treeClimbsRow : OpenClaim := { program := "ytommjkbbgmkdoaadoor", sum := "7924fe03e35406b6a292945d918491edca5dc6e397389934b8c41d07d7d05a8b", func := "jurat/juratlaw06.TreeClimbs", spec := "treeClimbs", named := ["jurat/sha.begin", "jurat/sha.k", "jurat/juratref02.first", "jurat/juratref02.constants"], apart := false, laid := [("jurat/juratref02.first", laid_jurat_juratref02_first), ("jurat/juratref02.constants", laid_jurat_juratref02_constants), ("jurat/sha.k", laid_jurat_sha_k), ("jurat/sha.begin", laid_jurat_sha_begin)] }
def TreeClimbsSaid : Prop := treeClimbsRow.holds Tryd.pinned (OpenSpec.ofChange treeClimbsSpec)

/-- ITS FALSE NEIGHBOUR: 'it returns false'. Refute it at one input. -/
def treeClimbsWrong : ChangeSpec := { name := "treeClimbs", fn := fun _ => fun
  | [d1, d2, d3] => { results := [.lit (.bool false)], args := [d1, d2, d3] }
  | _ => none }
def TreeClimbsWrongFalsely : Prop := treeClimbsRow.holds Tryd.pinned (OpenSpec.ofChange treeClimbsWrong)

/-- 'juratlaw06.TreeParts': WHATEVER THE INPUT: true; the input reads as it did. -/
def treePartsSpec : ChangeSpec := { name := "treeParts", fn := fun _ => fun
  | [d1, d2, d3, d4] => { results := [.lit (.bool true)], args := [d1, d2, d3, d4] }
  | _ => none }
def treePartsRow : OpenClaim := { program := "ytommjkbbgmkdoaadoor", sum := "7924fe03e35406b6a292945d918491edca5dc6e397389934b8c41d07d7d05a8b", func := "jurat/juratlaw06.TreeParts", spec := "treeParts", named := ["jurat/sha.begin", "jurat/sha.k"], apart := false, laid := [("jurat/sha.k", laid_jurat_sha_k), ("jurat/sha.begin", laid_jurat_sha_begin)] }
def TreePartsSaid : Prop := treePartsRow.holds Tryd.pinned (OpenSpec.ofChange treePartsSpec)

/-- ITS FALSE NEIGHBOUR: 'it returns false'. Refute it at one input. -/
def treePartsWrong : ChangeSpec := { name := "treeParts", fn := fun _ => fun
  | [d1, d2, d3, d4] => { results := [.lit (.bool false)], args := [d1, d2, d3, d4] }
  | _ => none }
def TreePartsWrongFalsely : Prop := treePartsRow.holds Tryd.pinned (OpenSpec.ofChange treePartsWrong)

/-- 'juratlaw06.TreeBack': WHATEVER THE INPUT: true; the input reads as it did. -/
def treeBackSpec : ChangeSpec := { name := "treeBack", fn := fun _ => fun
  | [d1, d2] => { results := [.lit (.bool true)], args := [d1, d2] }
  | _ => none }
def treeBackRow : OpenClaim := { program := "ytommjkbbgmkdoaadoor", sum := "7924fe03e35406b6a292945d918491edca5dc6e397389934b8c41d07d7d05a8b", func := "jurat/juratlaw06.TreeBack", spec := "treeBack", named := ["jurat/sha.begin", "jurat/sha.k"], apart := false, laid := [("jurat/sha.k", laid_jurat_sha_k), ("jurat/sha.begin", laid_jurat_sha_begin)] }
def TreeBackSaid : Prop := treeBackRow.holds Tryd.pinned (OpenSpec.ofChange treeBackSpec)

/-- ITS FALSE NEIGHBOUR: 'it returns false'. Refute it at one input. -/
def treeBackWrong : ChangeSpec := { name := "treeBack", fn := fun _ => fun
  | [d1, d2] => { results := [.lit (.bool false)], args := [d1, d2] }
  | _ => none }
def TreeBackWrongFalsely : Prop := treeBackRow.holds Tryd.pinned (OpenSpec.ofChange treeBackWrong)

/-- 'juratlaw05.OtsMakes': WHATEVER THE INPUT: true; the input reads as it did. -/
def otsMakesSpec : ChangeSpec := { name := "otsMakes", fn := fun _ => fun
  | [d1, d2, d3] => { results := [.lit (.bool true)], args := [d1, d2, d3] }
  | _ => none }
def otsMakesRow : OpenClaim := { program := "ytommjkbbgmkdoaadoor", sum := "7924fe03e35406b6a292945d918491edca5dc6e397389934b8c41d07d7d05a8b", func := "jurat/juratlaw05.OtsMakes", spec := "otsMakes", unfollowed := true, recurses := true, named := ["jurat/sha.begin", "jurat/sha.k", "jurat/juratref02.first", "jurat/juratref02.constants"], apart := false, laid := [("jurat/juratref02.first", laid_jurat_juratref02_first), ("jurat/juratref02.constants", laid_jurat_juratref02_constants), ("jurat/sha.k", laid_jurat_sha_k), ("jurat/sha.begin", laid_jurat_sha_begin)] }
def OtsMakesSaid : Prop := otsMakesRow.holds Tryd.pinned (OpenSpec.ofChange otsMakesSpec)

/-- ITS FALSE NEIGHBOUR: 'it returns false'. Refute it at one input. -/
def otsMakesWrong : ChangeSpec := { name := "otsMakes", fn := fun _ => fun
  | [d1, d2, d3] => { results := [.lit (.bool false)], args := [d1, d2, d3] }
  | _ => none }
def OtsMakesWrongFalsely : Prop := otsMakesRow.holds Tryd.pinned (OpenSpec.ofChange otsMakesWrong)

/-- 'juratlaw05.OtsSigns': WHATEVER THE INPUT: true; the input reads as it did. -/
def otsSignsSpec : ChangeSpec := { name := "otsSigns", fn := fun _ => fun
  | [d1, d2, d3, d4] => { results := [.lit (.bool true)], args := [d1, d2, d3, d4] }
  | _ => none }
def otsSignsRow : OpenClaim := { program := "ytommjkbbgmkdoaadoor", sum := "7924fe03e35406b6a292945d918491edca5dc6e397389934b8c41d07d7d05a8b", func := "jurat/juratlaw05.OtsSigns", spec := "otsSigns", unfollowed := true, recurses := true, named := ["jurat/sha.begin", "jurat/sha.k", "jurat/juratref02.first", "jurat/juratref02.constants"], apart := false, laid := [("jurat/juratref02.first", laid_jurat_juratref02_first), ("jurat/juratref02.constants", laid_jurat_juratref02_constants), ("jurat/sha.k", laid_jurat_sha_k), ("jurat/sha.begin", laid_jurat_sha_begin)] }
def OtsSignsSaid : Prop := otsSignsRow.holds Tryd.pinned (OpenSpec.ofChange otsSignsSpec)

/-- ITS FALSE NEIGHBOUR: 'it returns false'. Refute it at one input. -/
def otsSignsWrong : ChangeSpec := { name := "otsSigns", fn := fun _ => fun
  | [d1, d2, d3, d4] => { results := [.lit (.bool false)], args := [d1, d2, d3, d4] }
  | _ => none }
def OtsSignsWrongFalsely : Prop := otsSignsRow.holds Tryd.pinned (OpenSpec.ofChange otsSignsWrong)

/-- 'juratlaw05.OtsBack': WHATEVER THE INPUT: true; the input reads as it did. -/
def otsBackSpec : ChangeSpec := { name := "otsBack", fn := fun _ => fun
  | [d1, d2, d3] => { results := [.lit (.bool true)], args := [d1, d2, d3] }
  | _ => none }
def otsBackRow : OpenClaim := { program := "ytommjkbbgmkdoaadoor", sum := "7924fe03e35406b6a292945d918491edca5dc6e397389934b8c41d07d7d05a8b", func := "jurat/juratlaw05.OtsBack", spec := "otsBack", unfollowed := true, recurses := true, named := ["jurat/sha.begin", "jurat/sha.k"], apart := false, laid := [("jurat/sha.k", laid_jurat_sha_k), ("jurat/sha.begin", laid_jurat_sha_begin)] }
def OtsBackSaid : Prop := otsBackRow.holds Tryd.pinned (OpenSpec.ofChange otsBackSpec)

/-- ITS FALSE NEIGHBOUR: 'it returns false'. Refute it at one input. -/
def otsBackWrong : ChangeSpec := { name := "otsBack", fn := fun _ => fun
  | [d1, d2, d3] => { results := [.lit (.bool false)], args := [d1, d2, d3] }
  | _ => none }
def OtsBackWrongFalsely : Prop := otsBackRow.holds Tryd.pinned (OpenSpec.ofChange otsBackWrong)

/-- 'juratlaw05.OtsTells': WHATEVER THE INPUT: true; the input reads as it did. -/
def otsTellsSpec : ChangeSpec := { name := "otsTells", fn := fun _ => fun
  | [d1, d2, d3, d4, d5] => { results := [.lit (.bool true)], args := [d1, d2, d3, d4, d5] }
  | _ => none }
def otsTellsRow : OpenClaim := { program := "ytommjkbbgmkdoaadoor", sum := "7924fe03e35406b6a292945d918491edca5dc6e397389934b8c41d07d7d05a8b", func := "jurat/juratlaw05.OtsTells", spec := "otsTells", unfollowed := true, recurses := true, named := ["jurat/sha.begin", "jurat/sha.k", "jurat/juratref02.first", "jurat/juratref02.constants"], apart := false, laid := [("jurat/juratref02.first", laid_jurat_juratref02_first), ("jurat/juratref02.constants", laid_jurat_juratref02_constants), ("jurat/sha.k", laid_jurat_sha_k), ("jurat/sha.begin", laid_jurat_sha_begin)] }
def OtsTellsSaid : Prop := otsTellsRow.holds Tryd.pinned (OpenSpec.ofChange otsTellsSpec)

/-- ITS FALSE NEIGHBOUR: 'it returns false'. Refute it at one input. -/
def otsTellsWrong : ChangeSpec := { name := "otsTells", fn := fun _ => fun
  | [d1, d2, d3, d4, d5] => { results := [.lit (.bool false)], args := [d1, d2, d3, d4, d5] }
  | _ => none }
def OtsTellsWrongFalsely : Prop := otsTellsRow.holds Tryd.pinned (OpenSpec.ofChange otsTellsWrong)

/-- 'juratlaw05.OtsShows': WHATEVER THE INPUT: true; the input reads as it did. -/
def otsShowsSpec : ChangeSpec := { name := "otsShows", fn := fun _ => fun
  | [d1, d2, d3] => { results := [.lit (.bool true)], args := [d1, d2, d3] }
  | _ => none }
def otsShowsRow : OpenClaim := { program := "ytommjkbbgmkdoaadoor", sum := "7924fe03e35406b6a292945d918491edca5dc6e397389934b8c41d07d7d05a8b", func := "jurat/juratlaw05.OtsShows", spec := "otsShows", unfollowed := true, recurses := true, named := ["jurat/sha.begin", "jurat/sha.k", "jurat/juratref02.first", "jurat/juratref02.constants"], apart := false, laid := [("jurat/juratref02.first", laid_jurat_juratref02_first), ("jurat/juratref02.constants", laid_jurat_juratref02_constants), ("jurat/sha.k", laid_jurat_sha_k), ("jurat/sha.begin", laid_jurat_sha_begin)] }
def OtsShowsSaid : Prop := otsShowsRow.holds Tryd.pinned (OpenSpec.ofChange otsShowsSpec)

/-- ITS FALSE NEIGHBOUR: 'it returns false'. Refute it at one input. -/
def otsShowsWrong : ChangeSpec := { name := "otsShows", fn := fun _ => fun
  | [d1, d2, d3] => { results := [.lit (.bool false)], args := [d1, d2, d3] }
  | _ => none }
def OtsShowsWrongFalsely : Prop := otsShowsRow.holds Tryd.pinned (OpenSpec.ofChange otsShowsWrong)

/-- 'juratlaw05.OtsBits': WHATEVER THE INPUT: true; the input reads as it did. -/
def otsBitsSpec : ChangeSpec := { name := "otsBits", fn := fun _ => fun
  | [d1, d2, d3, d4] => { results := [.lit (.bool true)], args := [d1, d2, d3, d4] }
  | _ => none }
def otsBitsRow : OpenClaim := { program := "ytommjkbbgmkdoaadoor", sum := "7924fe03e35406b6a292945d918491edca5dc6e397389934b8c41d07d7d05a8b", func := "jurat/juratlaw05.OtsBits", spec := "otsBits", unfollowed := true, recurses := true, named := ["jurat/sha.begin", "jurat/sha.k", "jurat/juratref02.first", "jurat/juratref02.constants"], apart := false, laid := [("jurat/juratref02.first", laid_jurat_juratref02_first), ("jurat/juratref02.constants", laid_jurat_juratref02_constants), ("jurat/sha.k", laid_jurat_sha_k), ("jurat/sha.begin", laid_jurat_sha_begin)] }
def OtsBitsSaid : Prop := otsBitsRow.holds Tryd.pinned (OpenSpec.ofChange otsBitsSpec)

/-- ITS FALSE NEIGHBOUR: 'it returns false'. Refute it at one input. -/
def otsBitsWrong : ChangeSpec := { name := "otsBits", fn := fun _ => fun
  | [d1, d2, d3, d4] => { results := [.lit (.bool false)], args := [d1, d2, d3, d4] }
  | _ => none }
def OtsBitsWrongFalsely : Prop := otsBitsRow.holds Tryd.pinned (OpenSpec.ofChange otsBitsWrong)

/- THE SECOND FORM. 'bulk': how many values and letters a reading holds, each counted each time it is reached (what is shared counts as often as it is met; a slice's spare places count too). A statement '..UptoSaid' is the law's where the arguments, and the package variables that the reading takes, are together of bulk at most 1048576: NARROWER than '..Said'. Prove '..Said' where nothing that the law and all that it calls make is longer than what came in: it says more and counts as full. Else prove '..UptoSaid'. A law counts once. -/
mutual
def uptoBulk {H : Type} : DataW H → Nat
  | .lit (.string bytes) => bytes.length + 1
  | .lit _ => 1
  | .nil => 1
  | .ptr d => uptoBulk d + 1
  | .slice elems spare => uptoBulkAll elems + uptoBulkAll spare + 1
  | .agg parts => uptoBulkAll parts + 1
  | .iface _ d => uptoBulk d + 1
  | .map entries => uptoBulkEntries entries + 1
  | .held _ => 1
def uptoBulkAll {H : Type} : List (DataW H) → Nat
  | [] => 0
  | d :: r => uptoBulk d + uptoBulkAll r
def uptoBulkEntries {H : Type} : List (Lit × DataW H) → Nat
  | [] => 0
  | x :: r => uptoBulkEntry x + uptoBulkEntries r
def uptoBulkEntry {H : Type} : Lit × DataW H → Nat
  | (.string bytes, d) => bytes.length + uptoBulk d + 1
  | (_, d) => uptoBulk d + 1
 end
def uptoSmall : (H : Type) → List (DataW H) → Bool := fun _ ds => decide (uptoBulkAll ds ≤ 1048576)
def OpenSpec.upto (s : _root_.Go.ChangeSpec) : _root_.Go.OpenSpec := { _root_.Go.OpenSpec.ofChange s with cond := some uptoSmall }

/-- 'juratlaw06.TreeRoots', WHERE WHAT IT READS IS OF BULK AT MOST 1048576: true; the input reads as it did. -/
def treeRootsUptoRow : OpenClaim := { program := "ytommjkbbgmkdoaadoor", sum := "7924fe03e35406b6a292945d918491edca5dc6e397389934b8c41d07d7d05a8b", func := "jurat/juratlaw06.TreeRoots", spec := "treeRoots", recurses := true, named := ["jurat/sha.begin", "jurat/sha.k", "jurat/juratref02.first", "jurat/juratref02.constants"], apart := false, laid := [("jurat/juratref02.first", laid_jurat_juratref02_first), ("jurat/juratref02.constants", laid_jurat_juratref02_constants), ("jurat/sha.k", laid_jurat_sha_k), ("jurat/sha.begin", laid_jurat_sha_begin)], narrowed := true }
def TreeRootsUptoSaid : Prop := treeRootsUptoRow.holds Tryd.pinned (OpenSpec.upto treeRootsSpec)

/-- 'juratlaw06.TreeHalves', WHERE WHAT IT READS IS OF BULK AT MOST 1048576: true; the input reads as it did. -/
def treeHalvesUptoRow : OpenClaim := { program := "ytommjkbbgmkdoaadoor", sum := "7924fe03e35406b6a292945d918491edca5dc6e397389934b8c41d07d7d05a8b", func := "jurat/juratlaw06.TreeHalves", spec := "treeHalves", named := ["jurat/sha.begin", "jurat/sha.k"], apart := false, laid := [("jurat/sha.k", laid_jurat_sha_k), ("jurat/sha.begin", laid_jurat_sha_begin)], narrowed := true }
def TreeHalvesUptoSaid : Prop := treeHalvesUptoRow.holds Tryd.pinned (OpenSpec.upto treeHalvesSpec)

/-- 'juratlaw06.TreePaths', WHERE WHAT IT READS IS OF BULK AT MOST 1048576: true; the input reads as it did. -/
def treePathsUptoRow : OpenClaim := { program := "ytommjkbbgmkdoaadoor", sum := "7924fe03e35406b6a292945d918491edca5dc6e397389934b8c41d07d7d05a8b", func := "jurat/juratlaw06.TreePaths", spec := "treePaths", recurses := true, named := ["jurat/sha.begin", "jurat/sha.k", "jurat/juratref02.first", "jurat/juratref02.constants"], apart := false, laid := [("jurat/juratref02.first", laid_jurat_juratref02_first), ("jurat/juratref02.constants", laid_jurat_juratref02_constants), ("jurat/sha.k", laid_jurat_sha_k), ("jurat/sha.begin", laid_jurat_sha_begin)], narrowed := true }
def TreePathsUptoSaid : Prop := treePathsUptoRow.holds Tryd.pinned (OpenSpec.upto treePathsSpec)

/-- 'juratlaw06.TreeClimbs', WHERE WHAT IT READS IS OF BULK AT MOST 1048576: true; the input reads as it did. -/
def treeClimbsUptoRow : OpenClaim := { program := "ytommjkbbgmkdoaadoor", sum := "7924fe03e35406b6a292945d918491edca5dc6e397389934b8c41d07d7d05a8b", func := "jurat/juratlaw06.TreeClimbs", spec := "treeClimbs", named := ["jurat/sha.begin", "jurat/sha.k", "jurat/juratref02.first", "jurat/juratref02.constants"], apart := false, laid := [("jurat/juratref02.first", laid_jurat_juratref02_first), ("jurat/juratref02.constants", laid_jurat_juratref02_constants), ("jurat/sha.k", laid_jurat_sha_k), ("jurat/sha.begin", laid_jurat_sha_begin)], narrowed := true }
def TreeClimbsUptoSaid : Prop := treeClimbsUptoRow.holds Tryd.pinned (OpenSpec.upto treeClimbsSpec)

/-- 'juratlaw06.TreeParts', WHERE WHAT IT READS IS OF BULK AT MOST 1048576: true; the input reads as it did. -/
def treePartsUptoRow : OpenClaim := { program := "ytommjkbbgmkdoaadoor", sum := "7924fe03e35406b6a292945d918491edca5dc6e397389934b8c41d07d7d05a8b", func := "jurat/juratlaw06.TreeParts", spec := "treeParts", named := ["jurat/sha.begin", "jurat/sha.k"], apart := false, laid := [("jurat/sha.k", laid_jurat_sha_k), ("jurat/sha.begin", laid_jurat_sha_begin)], narrowed := true }
def TreePartsUptoSaid : Prop := treePartsUptoRow.holds Tryd.pinned (OpenSpec.upto treePartsSpec)

/-- 'juratlaw06.TreeBack', WHERE WHAT IT READS IS OF BULK AT MOST 1048576: true; the input reads as it did. -/
def treeBackUptoRow : OpenClaim := { program := "ytommjkbbgmkdoaadoor", sum := "7924fe03e35406b6a292945d918491edca5dc6e397389934b8c41d07d7d05a8b", func := "jurat/juratlaw06.TreeBack", spec := "treeBack", named := ["jurat/sha.begin", "jurat/sha.k"], apart := false, laid := [("jurat/sha.k", laid_jurat_sha_k), ("jurat/sha.begin", laid_jurat_sha_begin)], narrowed := true }
def TreeBackUptoSaid : Prop := treeBackUptoRow.holds Tryd.pinned (OpenSpec.upto treeBackSpec)

/-- 'juratlaw05.OtsMakes', WHERE WHAT IT READS IS OF BULK AT MOST 1048576: true; the input reads as it did. -/
def otsMakesUptoRow : OpenClaim := { program := "ytommjkbbgmkdoaadoor", sum := "7924fe03e35406b6a292945d918491edca5dc6e397389934b8c41d07d7d05a8b", func := "jurat/juratlaw05.OtsMakes", spec := "otsMakes", unfollowed := true, recurses := true, named := ["jurat/sha.begin", "jurat/sha.k", "jurat/juratref02.first", "jurat/juratref02.constants"], apart := false, laid := [("jurat/juratref02.first", laid_jurat_juratref02_first), ("jurat/juratref02.constants", laid_jurat_juratref02_constants), ("jurat/sha.k", laid_jurat_sha_k), ("jurat/sha.begin", laid_jurat_sha_begin)], narrowed := true }
def OtsMakesUptoSaid : Prop := otsMakesUptoRow.holds Tryd.pinned (OpenSpec.upto otsMakesSpec)

/-- 'juratlaw05.OtsSigns', WHERE WHAT IT READS IS OF BULK AT MOST 1048576: true; the input reads as it did. -/
def otsSignsUptoRow : OpenClaim := { program := "ytommjkbbgmkdoaadoor", sum := "7924fe03e35406b6a292945d918491edca5dc6e397389934b8c41d07d7d05a8b", func := "jurat/juratlaw05.OtsSigns", spec := "otsSigns", unfollowed := true, recurses := true, named := ["jurat/sha.begin", "jurat/sha.k", "jurat/juratref02.first", "jurat/juratref02.constants"], apart := false, laid := [("jurat/juratref02.first", laid_jurat_juratref02_first), ("jurat/juratref02.constants", laid_jurat_juratref02_constants), ("jurat/sha.k", laid_jurat_sha_k), ("jurat/sha.begin", laid_jurat_sha_begin)], narrowed := true }
def OtsSignsUptoSaid : Prop := otsSignsUptoRow.holds Tryd.pinned (OpenSpec.upto otsSignsSpec)

/-- 'juratlaw05.OtsBack', WHERE WHAT IT READS IS OF BULK AT MOST 1048576: true; the input reads as it did. -/
def otsBackUptoRow : OpenClaim := { program := "ytommjkbbgmkdoaadoor", sum := "7924fe03e35406b6a292945d918491edca5dc6e397389934b8c41d07d7d05a8b", func := "jurat/juratlaw05.OtsBack", spec := "otsBack", unfollowed := true, recurses := true, named := ["jurat/sha.begin", "jurat/sha.k"], apart := false, laid := [("jurat/sha.k", laid_jurat_sha_k), ("jurat/sha.begin", laid_jurat_sha_begin)], narrowed := true }
def OtsBackUptoSaid : Prop := otsBackUptoRow.holds Tryd.pinned (OpenSpec.upto otsBackSpec)

/-- 'juratlaw05.OtsTells', WHERE WHAT IT READS IS OF BULK AT MOST 1048576: true; the input reads as it did. -/
def otsTellsUptoRow : OpenClaim := { program := "ytommjkbbgmkdoaadoor", sum := "7924fe03e35406b6a292945d918491edca5dc6e397389934b8c41d07d7d05a8b", func := "jurat/juratlaw05.OtsTells", spec := "otsTells", unfollowed := true, recurses := true, named := ["jurat/sha.begin", "jurat/sha.k", "jurat/juratref02.first", "jurat/juratref02.constants"], apart := false, laid := [("jurat/juratref02.first", laid_jurat_juratref02_first), ("jurat/juratref02.constants", laid_jurat_juratref02_constants), ("jurat/sha.k", laid_jurat_sha_k), ("jurat/sha.begin", laid_jurat_sha_begin)], narrowed := true }
def OtsTellsUptoSaid : Prop := otsTellsUptoRow.holds Tryd.pinned (OpenSpec.upto otsTellsSpec)

/-- 'juratlaw05.OtsShows', WHERE WHAT IT READS IS OF BULK AT MOST 1048576: true; the input reads as it did. -/
def otsShowsUptoRow : OpenClaim := { program := "ytommjkbbgmkdoaadoor", sum := "7924fe03e35406b6a292945d918491edca5dc6e397389934b8c41d07d7d05a8b", func := "jurat/juratlaw05.OtsShows", spec := "otsShows", unfollowed := true, recurses := true, named := ["jurat/sha.begin", "jurat/sha.k", "jurat/juratref02.first", "jurat/juratref02.constants"], apart := false, laid := [("jurat/juratref02.first", laid_jurat_juratref02_first), ("jurat/juratref02.constants", laid_jurat_juratref02_constants), ("jurat/sha.k", laid_jurat_sha_k), ("jurat/sha.begin", laid_jurat_sha_begin)], narrowed := true }
def OtsShowsUptoSaid : Prop := otsShowsUptoRow.holds Tryd.pinned (OpenSpec.upto otsShowsSpec)

/-- 'juratlaw05.OtsBits', WHERE WHAT IT READS IS OF BULK AT MOST 1048576: true; the input reads as it did. -/
def otsBitsUptoRow : OpenClaim := { program := "ytommjkbbgmkdoaadoor", sum := "7924fe03e35406b6a292945d918491edca5dc6e397389934b8c41d07d7d05a8b", func := "jurat/juratlaw05.OtsBits", spec := "otsBits", unfollowed := true, recurses := true, named := ["jurat/sha.begin", "jurat/sha.k", "jurat/juratref02.first", "jurat/juratref02.constants"], apart := false, laid := [("jurat/juratref02.first", laid_jurat_juratref02_first), ("jurat/juratref02.constants", laid_jurat_juratref02_constants), ("jurat/sha.k", laid_jurat_sha_k), ("jurat/sha.begin", laid_jurat_sha_begin)], narrowed := true }
def OtsBitsUptoSaid : Prop := otsBitsUptoRow.holds Tryd.pinned (OpenSpec.upto otsBitsSpec)

end Rows
end Go.Proofs.YtommjkbbgmkdoaaDoor
