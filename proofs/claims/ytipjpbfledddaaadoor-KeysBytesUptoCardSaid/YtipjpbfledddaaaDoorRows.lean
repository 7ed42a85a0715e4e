/-
  NARROWER THAN 'FOR EVERY INPUT', by the rows' own cells (each row's printed sentence says how): KeysTells: laid · KeysMakes: laid · KeysBack: laid · KeysOnce: laid · KeysSigns: laid · KeysNil: laid · KeysBytes: laid · KeysThere: laid.
  DERIVED. THE GIVEN ROWS OF THIS SEAT. 8 by the template 'for every input the law returns true; each argument reads behind the call as it read before'; 0 by the template 'total and deterministic' (their statements: YtipjpbfledddaaaDoorTotals.lean).
  GIVEN WITH THE SEED: the statements are not yours to turn. If you find one false, say at which input.
  Laid BY PROGRAM, IN A SANDBOX (cutbox-rows.mjs): the forced cells as the released guide's own fill.sh prints them over the translation 77d023962417bce0… (all of the seat's roots in one cut). By AI agents, Wed Nov 11 2026. No macro, syntax, notation, axiom, sorry.
-/
import Derived.Test.YtipjpbfledddaaaDoorChecked
import GoSem.Claim
import GoSem.ClaimJoined
import GoSem.ClaimMapViews
import Derived.JoinedTies
import Derived.KernelRfl
namespace Go.Proofs.YtipjpbfledddaaaDoor
/- THE CELL 'sum', in the pinned program and in every row, IS THE sha256 OF THE DUMP (.gsa) THAT YtipjpbfledddaaaDoorProg.lean LOADS. Nothing in Lean hashes anything: it is a label: what it is worth is what the hold of that sum in a sandbox is worth. -/
noncomputable def Tryd.pinned : Pinned := { name := "ytipjpbfledddaaadoor", sum := "77d023962417bce096a8f5304f5c917ccca21475ca8e9400f6daddb53d9e6476", checked := Tryd.checked }
namespace Rows
def none {H : Type} : Left H := { results := [], args := [] }

/- WHAT THE LISTED PACKAGE-LEVEL VARIABLES READ AS WHEN THE CALL BEGINS. Each datum BY PROGRAM (the guide's laid-datum.mjs) off the statement by which the dump's own 'gosem.cut.vars' lays the variable. In a bare row this is a premise. The card (YtipjpbfledddaaaDoorCards.lean) ties it to the program's text. -/
def laid_jurat_juratref02_first {H : Type} : DataW H := .agg [.lit (.int .u32 1779033703), .lit (.int .u32 3144134277), .lit (.int .u32 1013904242), .lit (.int .u32 2773480762), .lit (.int .u32 1359893119), .lit (.int .u32 2600822924), .lit (.int .u32 528734635), .lit (.int .u32 1541459225)]
def laid_jurat_juratref02_constants {H : Type} : DataW H := .agg [.lit (.int .u32 1116352408), .lit (.int .u32 1899447441), .lit (.int .u32 3049323471), .lit (.int .u32 3921009573), .lit (.int .u32 961987163), .lit (.int .u32 1508970993), .lit (.int .u32 2453635748), .lit (.int .u32 2870763221), .lit (.int .u32 3624381080), .lit (.int .u32 310598401), .lit (.int .u32 607225278), .lit (.int .u32 1426881987), .lit (.int .u32 1925078388), .lit (.int .u32 2162078206), .lit (.int .u32 2614888103), .lit (.int .u32 3248222580), .lit (.int .u32 3835390401), .lit (.int .u32 4022224774), .lit (.int .u32 264347078), .lit (.int .u32 604807628), .lit (.int .u32 770255983), .lit (.int .u32 1249150122), .lit (.int .u32 1555081692), .lit (.int .u32 1996064986), .lit (.int .u32 2554220882), .lit (.int .u32 2821834349), .lit (.int .u32 2952996808), .lit (.int .u32 3210313671), .lit (.int .u32 3336571891), .lit (.int .u32 3584528711), .lit (.int .u32 113926993), .lit (.int .u32 338241895), .lit (.int .u32 666307205), .lit (.int .u32 773529912), .lit (.int .u32 1294757372), .lit (.int .u32 1396182291), .lit (.int .u32 1695183700), .lit (.int .u32 1986661051), .lit (.int .u32 2177026350), .lit (.int .u32 2456956037), .lit (.int .u32 2730485921), .lit (.int .u32 2820302411), .lit (.int .u32 3259730800), .lit (.int .u32 3345764771), .lit (.int .u32 3516065817), .lit (.int .u32 3600352804), .lit (.int .u32 4094571909), .lit (.int .u32 275423344), .lit (.int .u32 430227734), .lit (.int .u32 506948616), .lit (.int .u32 659060556), .lit (.int .u32 883997877), .lit (.int .u32 958139571), .lit (.int .u32 1322822218), .lit (.int .u32 1537002063), .lit (.int .u32 1747873779), .lit (.int .u32 1955562222), .lit (.int .u32 2024104815), .lit (.int .u32 2227730452), .lit (.int .u32 2361852424), .lit (.int .u32 2428436474), .lit (.int .u32 2756734187), .lit (.int .u32 3204031479), .lit (.int .u32 3329325298)]
def laid_jurat_sha_k {H : Type} : DataW H := .agg [.lit (.int .u32 1116352408), .lit (.int .u32 1899447441), .lit (.int .u32 3049323471), .lit (.int .u32 3921009573), .lit (.int .u32 961987163), .lit (.int .u32 1508970993), .lit (.int .u32 2453635748), .lit (.int .u32 2870763221), .lit (.int .u32 3624381080), .lit (.int .u32 310598401), .lit (.int .u32 607225278), .lit (.int .u32 1426881987), .lit (.int .u32 1925078388), .lit (.int .u32 2162078206), .lit (.int .u32 2614888103), .lit (.int .u32 3248222580), .lit (.int .u32 3835390401), .lit (.int .u32 4022224774), .lit (.int .u32 264347078), .lit (.int .u32 604807628), .lit (.int .u32 770255983), .lit (.int .u32 1249150122), .lit (.int .u32 1555081692), .lit (.int .u32 1996064986), .lit (.int .u32 2554220882), .lit (.int .u32 2821834349), .lit (.int .u32 2952996808), .lit (.int .u32 3210313671), .lit (.int .u32 3336571891), .lit (.int .u32 3584528711), .lit (.int .u32 113926993), .lit (.int .u32 338241895), .lit (.int .u32 666307205), .lit (.int .u32 773529912), .lit (.int .u32 1294757372), .lit (.int .u32 1396182291), .lit (.int .u32 1695183700), .lit (.int .u32 1986661051), .lit (.int .u32 2177026350), .lit (.int .u32 2456956037), .lit (.int .u32 2730485921), .lit (.int .u32 2820302411), .lit (.int .u32 3259730800), .lit (.int .u32 3345764771), .lit (.int .u32 3516065817), .lit (.int .u32 3600352804), .lit (.int .u32 4094571909), .lit (.int .u32 275423344), .lit (.int .u32 430227734), .lit (.int .u32 506948616), .lit (.int .u32 659060556), .lit (.int .u32 883997877), .lit (.int .u32 958139571), .lit (.int .u32 1322822218), .lit (.int .u32 1537002063), .lit (.int .u32 1747873779), .lit (.int .u32 1955562222), .lit (.int .u32 2024104815), .lit (.int .u32 2227730452), .lit (.int .u32 2361852424), .lit (.int .u32 2428436474), .lit (.int .u32 2756734187), .lit (.int .u32 3204031479), .lit (.int .u32 3329325298)]
def laid_jurat_sha_begin {H : Type} : DataW H := .agg [.lit (.int .u32 1779033703), .lit (.int .u32 3144134277), .lit (.int .u32 1013904242), .lit (.int .u32 2773480762), .lit (.int .u32 1359893119), .lit (.int .u32 2600822924), .lit (.int .u32 528734635), .lit (.int .u32 1541459225)]

/-- 'juratlaw07.KeysTells': WHATEVER THE INPUT: true; the input reads as it did. -/
def keysTellsSpec : ChangeSpec := { name := "keysTells", fn := fun _ => fun
  | [d1, d2, d3, d4, d5] => { results := [.lit (.bool true)], args := [d1, d2, d3, d4, d5] }
  | _ => none }
def keysTellsRow : OpenClaim := { program := "ytipjpbfledddaaadoor", sum := "77d023962417bce096a8f5304f5c917ccca21475ca8e9400f6daddb53d9e6476", func := "jurat/juratlaw07.KeysTells", spec := "keysTells", unfollowed := true, recurses := true, named := ["jurat/sha.begin", "jurat/sha.k", "jurat/juratref02.first", "jurat/juratref02.constants"], apart := false, laid := [("jurat/juratref02.first", laid_jurat_juratref02_first), ("jurat/juratref02.constants", laid_jurat_juratref02_constants), ("jurat/sha.k", laid_jurat_sha_k), ("jurat/sha.begin", laid_jurat_sha_begin)] }
def KeysTellsSaid : Prop := keysTellsRow.holds Tryd.pinned (OpenSpec.ofChange keysTellsSpec)

/-- ITS FALSE NEIGHBOUR: 'it returns false'. Refute it at one input. -/
def keysTellsWrong : ChangeSpec := { name := "keysTells", fn := fun _ => fun
  | [d1, d2, d3, d4, d5] => { results := [.lit (.bool false)], args := [d1, d2, d3, d4, d5] }
  | _ => none }
def KeysTellsWrongFalsely : Prop := keysTellsRow.holds Tryd.pinned (OpenSpec.ofChange keysTellsWrong)

/-- 'juratlaw07.KeysMakes': WHATEVER THE INPUT: true; the input reads as it did. -/
def keysMakesSpec : ChangeSpec := { name := "keysMakes", fn := fun _ => fun
  | [d1, d2, d3] => { results := [.lit (.bool true)], args := [d1, d2, d3] }
  | _ => none }
def keysMakesRow : OpenClaim := { program := "ytipjpbfledddaaadoor", sum := "77d023962417bce096a8f5304f5c917ccca21475ca8e9400f6daddb53d9e6476", func := "jurat/juratlaw07.KeysMakes", spec := "keysMakes", unfollowed := true, recurses := true, named := ["jurat/sha.begin", "jurat/sha.k", "jurat/juratref02.first", "jurat/juratref02.constants"], apart := false, laid := [("jurat/juratref02.first", laid_jurat_juratref02_first), ("jurat/juratref02.constants", laid_jurat_juratref02_constants), ("jurat/sha.k", laid_jurat_sha_k), ("jurat/sha.begin", laid_jurat_sha_begin)] }
def KeysMakesSaid : Prop := keysMakesRow.holds Tryd.pinned (OpenSpec.ofChange keysMakesSpec)

/-- ITS FALSE NEIGHBOUR: 'it returns false'. Refute it at one input. -/
def keysMakesWrong : ChangeSpec := { name := "keysMakes", fn := fun _ => fun
  | [d1, d2, d3] => { results := [.lit (.bool false)], args := [d1, d2, d3] }
  | _ => none }
def KeysMakesWrongFalsely : Prop := keysMakesRow.holds Tryd.pinned (OpenSpec.ofChange keysMakesWrong)

/-- 'juratlaw07.KeysBack': WHATEVER THE INPUT: true; the input reads as it did. -/
def keysBackSpec : ChangeSpec := { name := "keysBack", fn := fun _ => fun
  | [d1, d2, d3, d4, d5] => { results := [.lit (.bool true)], args := [d1, d2, d3, d4, d5] }
  | _ => none }
def keysBackRow : OpenClaim := { program := "ytipjpbfledddaaadoor", sum := "77d023962417bce096a8f5304f5c917ccca21475ca8e9400f6daddb53d9e6476", func := "jurat/juratlaw07.KeysBack", spec := "keysBack", unfollowed := true, recurses := true, named := ["jurat/sha.begin", "jurat/sha.k"], apart := false, laid := [("jurat/sha.k", laid_jurat_sha_k), ("jurat/sha.begin", laid_jurat_sha_begin)] }
def KeysBackSaid : Prop := keysBackRow.holds Tryd.pinned (OpenSpec.ofChange keysBackSpec)

/-- ITS FALSE NEIGHBOUR: 'it returns false'. Refute it at one input. -/
def keysBackWrong : ChangeSpec := { name := "keysBack", fn := fun _ => fun
  | [d1, d2, d3, d4, d5] => { results := [.lit (.bool false)], args := [d1, d2, d3, d4, d5] }
  | _ => none }
def KeysBackWrongFalsely : Prop := keysBackRow.holds Tryd.pinned (OpenSpec.ofChange keysBackWrong)

/-- 'juratlaw07.KeysOnce': WHATEVER THE INPUT: true; the input reads as it did. -/
def keysOnceSpec : ChangeSpec := { name := "keysOnce", fn := fun _ => fun
  | [d1, d2, d3] => { results := [.lit (.bool true)], args := [d1, d2, d3] }
  | _ => none }
def keysOnceRow : OpenClaim := { program := "ytipjpbfledddaaadoor", sum := "77d023962417bce096a8f5304f5c917ccca21475ca8e9400f6daddb53d9e6476", func := "jurat/juratlaw07.KeysOnce", spec := "keysOnce", unfollowed := true, recurses := true, named := ["jurat/sha.begin", "jurat/sha.k"], apart := false, laid := [("jurat/sha.k", laid_jurat_sha_k), ("jurat/sha.begin", laid_jurat_sha_begin)] }
def KeysOnceSaid : Prop := keysOnceRow.holds Tryd.pinned (OpenSpec.ofChange keysOnceSpec)

/-- ITS FALSE NEIGHBOUR: 'it returns false'. Refute it at one input. -/
def keysOnceWrong : ChangeSpec := { name := "keysOnce", fn := fun _ => fun
  | [d1, d2, d3] => { results := [.lit (.bool false)], args := [d1, d2, d3] }
  | _ => none }
def KeysOnceWrongFalsely : Prop := keysOnceRow.holds Tryd.pinned (OpenSpec.ofChange keysOnceWrong)

/-- 'juratlaw07.KeysSigns': WHATEVER THE INPUT: true; the input reads as it did. -/
def keysSignsSpec : ChangeSpec := { name := "keysSigns", fn := fun _ => fun
  | [d1, d2, d3, d4] => { results := [.lit (.bool true)], args := [d1, d2, d3, d4] }
  | _ => none }
def keysSignsRow : OpenClaim := { program := "ytipjpbfledddaaadoor", sum := "77d023962417bce096a8f5304f5c917ccca21475ca8e9400f6daddb53d9e6476", func := "jurat/juratlaw07.KeysSigns", spec := "keysSigns", unfollowed := true, recurses := true, named := ["jurat/sha.begin", "jurat/sha.k", "jurat/juratref02.first", "jurat/juratref02.constants"], apart := false, laid := [("jurat/juratref02.first", laid_jurat_juratref02_first), ("jurat/juratref02.constants", laid_jurat_juratref02_constants), ("jurat/sha.k", laid_jurat_sha_k), ("jurat/sha.begin", laid_jurat_sha_begin)] }
def KeysSignsSaid : Prop := keysSignsRow.holds Tryd.pinned (OpenSpec.ofChange keysSignsSpec)

/-- ITS FALSE NEIGHBOUR: 'it returns false'. Refute it at one input. -/
def keysSignsWrong : ChangeSpec := { name := "keysSigns", fn := fun _ => fun
  | [d1, d2, d3, d4] => { results := [.lit (.bool false)], args := [d1, d2, d3, d4] }
  | _ => none }
def KeysSignsWrongFalsely : Prop := keysSignsRow.holds Tryd.pinned (OpenSpec.ofChange keysSignsWrong)

/-- 'juratlaw07.KeysNil': WHATEVER THE INPUT: true; the input reads as it did. -/
def keysNilSpec : ChangeSpec := { name := "keysNil", fn := fun _ => fun
  | [d1, d2] => { results := [.lit (.bool true)], args := [d1, d2] }
  | _ => none }
def keysNilRow : OpenClaim := { program := "ytipjpbfledddaaadoor", sum := "77d023962417bce096a8f5304f5c917ccca21475ca8e9400f6daddb53d9e6476", func := "jurat/juratlaw07.KeysNil", spec := "keysNil", unfollowed := true, recurses := true, named := ["jurat/sha.begin", "jurat/sha.k"], apart := false, laid := [("jurat/sha.k", laid_jurat_sha_k), ("jurat/sha.begin", laid_jurat_sha_begin)] }
def KeysNilSaid : Prop := keysNilRow.holds Tryd.pinned (OpenSpec.ofChange keysNilSpec)

/-- ITS FALSE NEIGHBOUR: 'it returns false'. Refute it at one input. -/
def keysNilWrong : ChangeSpec := { name := "keysNil", fn := fun _ => fun
  | [d1, d2] => { results := [.lit (.bool false)], args := [d1, d2] }
  | _ => none }
def KeysNilWrongFalsely : Prop := keysNilRow.holds Tryd.pinned (OpenSpec.ofChange keysNilWrong)

/-- 'juratlaw07.KeysBytes': WHATEVER THE INPUT: true; the input reads as it did. -/
def keysBytesSpec : ChangeSpec := { name := "keysBytes", fn := fun _ => fun
  | [d1, d2, d3, d4] => { results := [.lit (.bool true)], args := [d1, d2, d3, d4] }
  | _ => none }
def keysBytesRow : OpenClaim := { program := "ytipjpbfledddaaadoor", sum := "77d023962417bce096a8f5304f5c917ccca21475ca8e9400f6daddb53d9e6476", func := "jurat/juratlaw07.KeysBytes", spec := "keysBytes", unfollowed := true, recurses := true, named := ["jurat/sha.begin", "jurat/sha.k"], apart := false, laid := [("jurat/sha.k", laid_jurat_sha_k), ("jurat/sha.begin", laid_jurat_sha_begin)] }
def KeysBytesSaid : Prop := keysBytesRow.holds Tryd.pinned (OpenSpec.ofChange keysBytesSpec)

/-- ITS FALSE NEIGHBOUR: 'it returns false'. Refute it at one input. -/
def keysBytesWrong : ChangeSpec := { name := "keysBytes", fn := fun _ => fun
  | [d1, d2, d3, d4] => { results := [.lit (.bool false)], args := [d1, d2, d3, d4] }
  | _ => none }
def KeysBytesWrongFalsely : Prop := keysBytesRow.holds Tryd.pinned (OpenSpec.ofChange keysBytesWrong)

/-- 'juratlaw07.KeysThere': WHATEVER THE INPUT: true; the input reads as it did. -/
def keysThereSpec : ChangeSpec := { name := "keysThere", fn := fun _ => fun
  | [d1, d2, d3] => { results := [.lit (.bool true)], args := [d1, d2, d3] }
  | _ => none }
def keysThereRow : OpenClaim := { program := "ytipjpbfledddaaadoor", sum := "77d023962417bce096a8f5304f5c917ccca21475ca8e9400f6daddb53d9e6476", func := "jurat/juratlaw07.KeysThere", spec := "keysThere", unfollowed := true, recurses := true, named := ["jurat/sha.begin", "jurat/sha.k"], apart := false, laid := [("jurat/sha.k", laid_jurat_sha_k), ("jurat/sha.begin", laid_jurat_sha_begin)] }
def KeysThereSaid : Prop := keysThereRow.holds Tryd.pinned (OpenSpec.ofChange keysThereSpec)

/-- ITS FALSE NEIGHBOUR: 'it returns false'. Refute it at one input. -/
def keysThereWrong : ChangeSpec := { name := "keysThere", fn := fun _ => fun
  | [d1, d2, d3] => { results := [.lit (.bool false)], args := [d1, d2, d3] }
  | _ => none }
def KeysThereWrongFalsely : Prop := keysThereRow.holds Tryd.pinned (OpenSpec.ofChange keysThereWrong)

/- THE SECOND FORM. 'bulk': how many values and letters a reading holds, each counted each time it is reached (what is shared counts as often as it is met; a slice's spare places count too). A statement '..UptoSaid' is the law's where the arguments, and the package variables that the reading takes, are together of bulk at most 1048576: NARROWER than '..Said'. Prove '..Said' where nothing that the law and all that it calls make is longer than what came in: it says more and counts as full. Else prove '..UptoSaid'. A law counts once. -/
mutual
def uptoBulk {H : Type} : DataW H → Nat
  | .lit (.string bytes) => bytes.length + 1
  | .lit _ => 1
  | .nil => 1
  | .ptr d => uptoBulk d + 1
  | .slice elems spare => uptoBulkAll elems + uptoBulkAll spare + 1
  | .agg parts => uptoBulkAll parts + 1
  | .iface _ d => uptoBulk d + 1
  | .map entries => uptoBulkEntries entries + 1
  | .held _ => 1
def uptoBulkAll {H : Type} : List (DataW H) → Nat
  | [] => 0
  | d :: r => uptoBulk d + uptoBulkAll r
def uptoBulkEntries {H : Type} : List (Lit × DataW H) → Nat
  | [] => 0
  | x :: r => uptoBulkEntry x + uptoBulkEntries r
def uptoBulkEntry {H : Type} : Lit × DataW H → Nat
  | (.string bytes, d) => bytes.length + uptoBulk d + 1
  | (_, d) => uptoBulk d + 1
 end
def uptoSmall : (H : Type) → List (DataW H) → Bool := fun _ ds => decide (uptoBulkAll ds ≤ 1048576)
def OpenSpec.upto (s : _root_.Go.ChangeSpec) : _root_.Go.OpenSpec := { _root_.Go.OpenSpec.ofChange s with cond := some uptoSmall }

/-- 'juratlaw07.KeysTells', WHERE WHAT IT READS IS OF BULK AT MOST 1048576: true; the input reads as it did. -/
def keysTellsUptoRow : OpenClaim := { program := "ytipjpbfledddaaadoor", sum := "77d023962417bce096a8f5304f5c917ccca21475ca8e9400f6daddb53d9e6476", func := "jurat/juratlaw07.KeysTells", spec := "keysTells", unfollowed := true, recurses := true, named := ["jurat/sha.begin", "jurat/sha.k", "jurat/juratref02.first", "jurat/juratref02.constants"], apart := false, laid := [("jurat/juratref02.first", laid_jurat_juratref02_first), ("jurat/juratref02.constants", laid_jurat_juratref02_constants), ("jurat/sha.k", laid_jurat_sha_k), ("jurat/sha.begin", laid_jurat_sha_begin)], narrowed := true }
def KeysTellsUptoSaid : Prop := keysTellsUptoRow.holds Tryd.pinned (OpenSpec.upto keysTellsSpec)

/-- 'juratlaw07.KeysMakes', WHERE WHAT IT READS IS OF BULK AT MOST 1048576: true; the input reads as it did. -/
def keysMakesUptoRow : OpenClaim := { program := "ytipjpbfledddaaadoor", sum := "77d023962417bce096a8f5304f5c917ccca21475ca8e9400f6daddb53d9e6476", func := "jurat/juratlaw07.KeysMakes", spec := "keysMakes", unfollowed := true, recurses := true, named := ["jurat/sha.begin", "jurat/sha.k", "jurat/juratref02.first", "jurat/juratref02.constants"], apart := false, laid := [("jurat/juratref02.first", laid_jurat_juratref02_first), ("jurat/juratref02.constants", laid_jurat_juratref02_constants), ("jurat/sha.k", laid_jurat_sha_k), ("jurat/sha.begin", laid_jurat_sha_begin)], narrowed := true }
def KeysMakesUptoSaid : Prop := keysMakesUptoRow.holds Tryd.pinned (OpenSpec.upto keysMakesSpec)

/-- 'juratlaw07.KeysBack', WHERE WHAT IT READS IS OF BULK AT MOST 1048576: true; the input reads as it did. -/
def keysBackUptoRow : OpenClaim := { program := "ytipjpbfledddaaadoor", sum := "77d023962417bce096a8f5304f5c917ccca21475ca8e9400f6daddb53d9e6476", func := "jurat/juratlaw07.KeysBack", spec := "keysBack", unfollowed := true, recurses := true, named := ["jurat/sha.begin", "jurat/sha.k"], apart := false, laid := [("jurat/sha.k", laid_jurat_sha_k), ("jurat/sha.begin", laid_jurat_sha_begin)], narrowed := true }
def KeysBackUptoSaid : Prop := keysBackUptoRow.holds Tryd.pinned (OpenSpec.upto keysBackSpec)

/-- 'juratlaw07.KeysOnce', WHERE WHAT IT READS IS OF BULK AT MOST 1048576: true; the input reads as it did. -/
def keysOnceUptoRow : OpenClaim := { program := "ytipjpbfledddaaadoor", sum := "77d023962417bce096a8f5304f5c917ccca21475ca8e9400f6daddb53d9e6476", func := "jurat/juratlaw07.KeysOnce", spec := "keysOnce", unfollowed := true, recurses := true, named := ["jurat/sha.begin", "jurat/sha.k"], apart := false, laid := [("jurat/sha.k", laid_jurat_sha_k), ("jurat/sha.begin", laid_jurat_sha_begin)], narrowed := true }
def KeysOnceUptoSaid : Prop := keysOnceUptoRow.holds Tryd.pinned (OpenSpec.upto keysOnceSpec)

/-- 'juratlaw07.KeysSigns', WHERE WHAT IT READS IS OF BULK AT MOST 1048576: true; the input reads as it did. -/
def keysSignsUptoRow : OpenClaim := { program := "ytipjpbfledddaaadoor", sum := "77d023962417bce096a8f5304f5c917ccca21475ca8e9400f6daddb53d9e6476", func := "jurat/juratlaw07.KeysSigns", spec := "keysSigns", unfollowed := true, recurses := true, named := ["jurat/sha.begin", "jurat/sha.k", "jurat/juratref02.first", "jurat/juratref02.constants"], apart := false, laid := [("jurat/juratref02.first", laid_jurat_juratref02_first), ("jurat/juratref02.constants", laid_jurat_juratref02_constants), ("jurat/sha.k", laid_jurat_sha_k), ("jurat/sha.begin", laid_jurat_sha_begin)], narrowed := true }
def KeysSignsUptoSaid : Prop := keysSignsUptoRow.holds Tryd.pinned (OpenSpec.upto keysSignsSpec)

/-- 'juratlaw07.KeysNil', WHERE WHAT IT READS IS OF BULK AT MOST 1048576: true; the input reads as it did. -/
def keysNilUptoRow : OpenClaim := { program := "ytipjpbfledddaaadoor", sum := "77d023962417bce096a8f5304f5c917ccca21475ca8e9400f6daddb53d9e6476", func := "jurat/juratlaw07.KeysNil", spec := "keysNil", unfollowed := true, recurses := true, named := ["jurat/sha.begin", "jurat/sha.k"], apart := false, laid := [("jurat/sha.k", laid_jurat_sha_k), ("jurat/sha.begin", laid_jurat_sha_begin)], narrowed := true }
def KeysNilUptoSaid : Prop := keysNilUptoRow.holds Tryd.pinned (OpenSpec.upto keysNilSpec)

/-- 'juratlaw07.KeysBytes', WHERE WHAT IT READS IS OF BULK AT MOST 1048576: true; the input reads as it did. -/
def keysBytesUptoRow : OpenClaim := { program := "ytipjpbfledddaaadoor", sum := "77d023962417bce096a8f5304f5c917ccca21475ca8e9400f6daddb53d9e6476", func := "jurat/juratlaw07.KeysBytes", spec := "keysBytes", unfollowed := true, recurses := true, named := ["jurat/sha.begin", "jurat/sha.k"], apart := false, laid := [("jurat/sha.k", laid_jurat_sha_k), ("jurat/sha.begin", laid_jurat_sha_begin)], narrowed := true }
def KeysBytesUptoSaid : Prop := keysBytesUptoRow.holds Tryd.pinned (OpenSpec.upto keysBytesSpec)

/-- 'juratlaw07.KeysThere', WHERE WHAT IT READS IS OF BULK AT MOST 1048576: true; the input reads as it did. -/
def keysThereUptoRow : OpenClaim := { program := "ytipjpbfledddaaadoor", sum := "77d023962417bce096a8f5304f5c917ccca21475ca8e9400f6daddb53d9e6476", func := "jurat/juratlaw07.KeysThere", spec := "keysThere", unfollowed := true, recurses := true, named := ["jurat/sha.begin", "jurat/sha.k"], apart := false, laid := [("jurat/sha.k", laid_jurat_sha_k), ("jurat/sha.begin", laid_jurat_sha_begin)], narrowed := true }
def KeysThereUptoSaid : Prop := keysThereUptoRow.holds Tryd.pinned (OpenSpec.upto keysThereSpec)

end Rows
end Go.Proofs.YtipjpbfledddaaaDoor
