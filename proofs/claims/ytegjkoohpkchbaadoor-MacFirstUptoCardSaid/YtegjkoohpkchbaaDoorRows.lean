/-
  NARROWER THAN 'FOR EVERY INPUT', by the rows' own cells (each row's printed sentence says how): ShaSums: laid · ShaBlocks: laid · ShaPads: laid · ShaSplits: laid · ShaApart: laid · ShaNil: laid · MacSums: laid · MacKeys: laid · MacSeeds: laid · MacSame: laid · MacDerives: laid · MacFirst: laid.
  DERIVED. THE GIVEN ROWS OF THIS SEAT. 12 by the template 'for every input the law returns true; each argument reads behind the call as it read before'; 0 by the template 'total and deterministic' (their statements: YtegjkoohpkchbaaDoorTotals.lean).
  GIVEN WITH THE SEED: the statements are not yours to turn. If you find one false, say at which input.
  Laid BY PROGRAM, IN A SANDBOX (cutbox-rows.mjs): the forced cells as the released guide's own fill.sh prints them over the translation 4b3992ef926f77fc… (all of the seat's roots in one cut). By AI agents, Wed Nov 11 2026. No macro, syntax, notation, axiom, sorry.
-/
import Derived.Test.YtegjkoohpkchbaaDoorChecked
import GoSem.Claim
import GoSem.ClaimJoined
import GoSem.ClaimMapViews
import Derived.JoinedTies
import Derived.KernelRfl
namespace Go.Proofs.YtegjkoohpkchbaaDoor
/- THE CELL 'sum', in the pinned program and in every row, IS THE sha256 OF THE DUMP (.gsa) THAT YtegjkoohpkchbaaDoorProg.lean LOADS. Nothing in Lean hashes anything: it is a label: what it is worth is what the hold of that sum in a sandbox is worth. -/
noncomputable def Tryd.pinned : Pinned := { name := "ytegjkoohpkchbaadoor", sum := "4b3992ef926f77fc0e1ffbc05393319e3f5cbc313ecad76f1030782d9c64b093", checked := Tryd.checked }
namespace Rows
def none {H : Type} : Left H := { results := [], args := [] }

/- WHAT THE LISTED PACKAGE-LEVEL VARIABLES READ AS WHEN THE CALL BEGINS. Each datum BY PROGRAM (the guide's laid-datum.mjs) off the statement by which the dump's own 'gosem.cut.vars' lays the variable. In a bare row this is a premise. The card (YtegjkoohpkchbaaDoorCards.lean) ties it to the program's text. -/
def laid_jurat_juratref02_first {H : Type} : DataW H := .agg [.lit (.int .u32 1779033703), .lit (.int .u32 3144134277), .lit (.int .u32 1013904242), .lit (.int .u32 2773480762), .lit (.int .u32 1359893119), .lit (.int .u32 2600822924), .lit (.int .u32 528734635), .lit (.int .u32 1541459225)]
def laid_jurat_juratref02_constants {H : Type} : DataW H := .agg [.lit (.int .u32 1116352408), .lit (.int .u32 1899447441), .lit (.int .u32 3049323471), .lit (.int .u32 3921009573), .lit (.int .u32 961987163), .lit (.int .u32 1508970993), .lit (.int .u32 2453635748), .lit (.int .u32 2870763221), .lit (.int .u32 3624381080), .lit (.int .u32 310598401), .lit (.int .u32 607225278), .lit (.int .u32 1426881987), .lit (.int .u32 1925078388), .lit (.int .u32 2162078206), .lit (.int .u32 2614888103), .lit (.int .u32 3248222580), .lit (.int .u32 3835390401), .lit (.int .u32 4022224774), .lit (.int .u32 264347078), .lit (.int .u32 604807628), .lit (.int .u32 770255983), .lit (.int .u32 1249150122), .lit (.int .u32 1555081692), .lit (.int .u32 1996064986), .lit (.int .u32 2554220882), .lit (.int .u32 2821834349), .lit (.int .u32 2952996808), .lit (.int .u32 3210313671), .lit (.int .u32 3336571891), .lit (.int .u32 3584528711), .lit (.int .u32 113926993), .lit (.int .u32 338241895), .lit (.int .u32 666307205), .lit (.int .u32 773529912), .lit (.int .u32 1294757372), .lit (.int .u32 1396182291), .lit (.int .u32 1695183700), .lit (.int .u32 1986661051), .lit (.int .u32 2177026350), .lit (.int .u32 2456956037), .lit (.int .u32 2730485921), .lit (.int .u32 2820302411), .lit (.int .u32 3259730800), .lit (.int .u32 3345764771), .lit (.int .u32 3516065817), .lit (.int .u32 3600352804), .lit (.int .u32 4094571909), .lit (.int .u32 275423344), .lit (.int .u32 430227734), .lit (.int .u32 506948616), .lit (.int .u32 659060556), .lit (.int .u32 883997877), .lit (.int .u32 958139571), .lit (.int .u32 1322822218), .lit (.int .u32 1537002063), .lit (.int .u32 1747873779), .lit (.int .u32 1955562222), .lit (.int .u32 2024104815), .lit (.int .u32 2227730452), .lit (.int .u32 2361852424), .lit (.int .u32 2428436474), .lit (.int .u32 2756734187), .lit (.int .u32 3204031479), .lit (.int .u32 3329325298)]
def laid_jurat_sha_k {H : Type} : DataW H := .agg [.lit (.int .u32 1116352408), .lit (.int .u32 1899447441), .lit (.int .u32 3049323471), .lit (.int .u32 3921009573), .lit (.int .u32 961987163), .lit (.int .u32 1508970993), .lit (.int .u32 2453635748), .lit (.int .u32 2870763221), .lit (.int .u32 3624381080), .lit (.int .u32 310598401), .lit (.int .u32 607225278), .lit (.int .u32 1426881987), .lit (.int .u32 1925078388), .lit (.int .u32 2162078206), .lit (.int .u32 2614888103), .lit (.int .u32 3248222580), .lit (.int .u32 3835390401), .lit (.int .u32 4022224774), .lit (.int .u32 264347078), .lit (.int .u32 604807628), .lit (.int .u32 770255983), .lit (.int .u32 1249150122), .lit (.int .u32 1555081692), .lit (.int .u32 1996064986), .lit (.int .u32 2554220882), .lit (.int .u32 2821834349), .lit (.int .u32 2952996808), .lit (.int .u32 3210313671), .lit (.int .u32 3336571891), .lit (.int .u32 3584528711), .lit (.int .u32 113926993), .lit (.int .u32 338241895), .lit (.int .u32 666307205), .lit (.int .u32 773529912), .lit (.int .u32 1294757372), .lit (.int .u32 1396182291), .lit (.int .u32 1695183700), .lit (.int .u32 1986661051), .lit (.int .u32 2177026350), .lit (.int .u32 2456956037), .lit (.int .u32 2730485921), .lit (.int .u32 2820302411), .lit (.int .u32 3259730800), .lit (.int .u32 3345764771), .lit (.int .u32 3516065817), .lit (.int .u32 3600352804), .lit (.int .u32 4094571909), .lit (.int .u32 275423344), .lit (.int .u32 430227734), .lit (.int .u32 506948616), .lit (.int .u32 659060556), .lit (.int .u32 883997877), .lit (.int .u32 958139571), .lit (.int .u32 1322822218), .lit (.int .u32 1537002063), .lit (.int .u32 1747873779), .lit (.int .u32 1955562222), .lit (.int .u32 2024104815), .lit (.int .u32 2227730452), .lit (.int .u32 2361852424), .lit (.int .u32 2428436474), .lit (.int .u32 2756734187), .lit (.int .u32 3204031479), .lit (.int .u32 3329325298)]
def laid_jurat_sha_begin {H : Type} : DataW H := .agg [.lit (.int .u32 1779033703), .lit (.int .u32 3144134277), .lit (.int .u32 1013904242), .lit (.int .u32 2773480762), .lit (.int .u32 1359893119), .lit (.int .u32 2600822924), .lit (.int .u32 528734635), .lit (.int .u32 1541459225)]

/-- 'juratlaw02.ShaSums': WHATEVER THE INPUT: true; the input reads as it did. -/
def shaSumsSpec : ChangeSpec := { name := "shaSums", fn := fun _ => fun
  | [d] => { results := [.lit (.bool true)], args := [d] }
  | _ => none }
def shaSumsRow : OpenClaim := { program := "ytegjkoohpkchbaadoor", sum := "4b3992ef926f77fc0e1ffbc05393319e3f5cbc313ecad76f1030782d9c64b093", func := "jurat/juratlaw02.ShaSums", spec := "shaSums", named := ["jurat/sha.begin", "jurat/sha.k", "jurat/juratref02.first", "jurat/juratref02.constants"], apart := false, laid := [("jurat/juratref02.first", laid_jurat_juratref02_first), ("jurat/juratref02.constants", laid_jurat_juratref02_constants), ("jurat/sha.k", laid_jurat_sha_k), ("jurat/sha.begin", laid_jurat_sha_begin)] }
def ShaSumsSaid : Prop := shaSumsRow.holds Tryd.pinned (OpenSpec.ofChange shaSumsSpec)

/-- ITS FALSE NEIGHBOUR: 'it returns false'. Refute it at one input. -/
def shaSumsWrong : ChangeSpec := { name := "shaSums", fn := fun _ => fun
  | [d] => { results := [.lit (.bool false)], args := [d] }
  | _ => none }
def ShaSumsWrongFalsely : Prop := shaSumsRow.holds Tryd.pinned (OpenSpec.ofChange shaSumsWrong)

/-- 'juratlaw02.ShaBlocks': WHATEVER THE INPUT: true; the input reads as it did. -/
def shaBlocksSpec : ChangeSpec := { name := "shaBlocks", fn := fun _ => fun
  | [d1, d2] => { results := [.lit (.bool true)], args := [d1, d2] }
  | _ => none }
def shaBlocksRow : OpenClaim := { program := "ytegjkoohpkchbaadoor", sum := "4b3992ef926f77fc0e1ffbc05393319e3f5cbc313ecad76f1030782d9c64b093", func := "jurat/juratlaw02.ShaBlocks", spec := "shaBlocks", named := ["jurat/sha.k", "jurat/sha.begin", "jurat/juratref02.constants"], apart := false, laid := [("jurat/juratref02.constants", laid_jurat_juratref02_constants), ("jurat/sha.k", laid_jurat_sha_k), ("jurat/sha.begin", laid_jurat_sha_begin)] }
def ShaBlocksSaid : Prop := shaBlocksRow.holds Tryd.pinned (OpenSpec.ofChange shaBlocksSpec)

/-- ITS FALSE NEIGHBOUR: 'it returns false'. Refute it at one input. -/
def shaBlocksWrong : ChangeSpec := { name := "shaBlocks", fn := fun _ => fun
  | [d1, d2] => { results := [.lit (.bool false)], args := [d1, d2] }
  | _ => none }
def ShaBlocksWrongFalsely : Prop := shaBlocksRow.holds Tryd.pinned (OpenSpec.ofChange shaBlocksWrong)

/-- 'juratlaw02.ShaPads': WHATEVER THE INPUT: true; the input reads as it did. -/
def shaPadsSpec : ChangeSpec := { name := "shaPads", fn := fun _ => fun
  | [d] => { results := [.lit (.bool true)], args := [d] }
  | _ => none }
def shaPadsRow : OpenClaim := { program := "ytegjkoohpkchbaadoor", sum := "4b3992ef926f77fc0e1ffbc05393319e3f5cbc313ecad76f1030782d9c64b093", func := "jurat/juratlaw02.ShaPads", spec := "shaPads", named := ["jurat/sha.begin", "jurat/sha.k"], apart := false, laid := [("jurat/sha.k", laid_jurat_sha_k), ("jurat/sha.begin", laid_jurat_sha_begin)] }
def ShaPadsSaid : Prop := shaPadsRow.holds Tryd.pinned (OpenSpec.ofChange shaPadsSpec)

/-- ITS FALSE NEIGHBOUR: 'it returns false'. Refute it at one input. -/
def shaPadsWrong : ChangeSpec := { name := "shaPads", fn := fun _ => fun
  | [d] => { results := [.lit (.bool false)], args := [d] }
  | _ => none }
def ShaPadsWrongFalsely : Prop := shaPadsRow.holds Tryd.pinned (OpenSpec.ofChange shaPadsWrong)

/-- 'juratlaw02.ShaSplits': WHATEVER THE INPUT: true; the input reads as it did. -/
def shaSplitsSpec : ChangeSpec := { name := "shaSplits", fn := fun _ => fun
  | [d] => { results := [.lit (.bool true)], args := [d] }
  | _ => none }
def shaSplitsRow : OpenClaim := { program := "ytegjkoohpkchbaadoor", sum := "4b3992ef926f77fc0e1ffbc05393319e3f5cbc313ecad76f1030782d9c64b093", func := "jurat/juratlaw02.ShaSplits", spec := "shaSplits", named := ["jurat/sha.begin", "jurat/sha.k"], apart := false, laid := [("jurat/sha.k", laid_jurat_sha_k), ("jurat/sha.begin", laid_jurat_sha_begin)] }
def ShaSplitsSaid : Prop := shaSplitsRow.holds Tryd.pinned (OpenSpec.ofChange shaSplitsSpec)

/-- ITS FALSE NEIGHBOUR: 'it returns false'. Refute it at one input. -/
def shaSplitsWrong : ChangeSpec := { name := "shaSplits", fn := fun _ => fun
  | [d] => { results := [.lit (.bool false)], args := [d] }
  | _ => none }
def ShaSplitsWrongFalsely : Prop := shaSplitsRow.holds Tryd.pinned (OpenSpec.ofChange shaSplitsWrong)

/-- 'juratlaw02.ShaApart': WHATEVER THE INPUT: true; the input reads as it did. -/
def shaApartSpec : ChangeSpec := { name := "shaApart", fn := fun _ => fun
  | [d1, d2, d3] => { results := [.lit (.bool true)], args := [d1, d2, d3] }
  | _ => none }
def shaApartRow : OpenClaim := { program := "ytegjkoohpkchbaadoor", sum := "4b3992ef926f77fc0e1ffbc05393319e3f5cbc313ecad76f1030782d9c64b093", func := "jurat/juratlaw02.ShaApart", spec := "shaApart", named := ["jurat/sha.begin", "jurat/sha.k", "jurat/juratref02.first", "jurat/juratref02.constants"], apart := false, laid := [("jurat/juratref02.first", laid_jurat_juratref02_first), ("jurat/juratref02.constants", laid_jurat_juratref02_constants), ("jurat/sha.k", laid_jurat_sha_k), ("jurat/sha.begin", laid_jurat_sha_begin)] }
def ShaApartSaid : Prop := shaApartRow.holds Tryd.pinned (OpenSpec.ofChange shaApartSpec)

/-- ITS FALSE NEIGHBOUR: 'it returns false'. Refute it at one input. -/
def shaApartWrong : ChangeSpec := { name := "shaApart", fn := fun _ => fun
  | [d1, d2, d3] => { results := [.lit (.bool false)], args := [d1, d2, d3] }
  | _ => none }
def ShaApartWrongFalsely : Prop := shaApartRow.holds Tryd.pinned (OpenSpec.ofChange shaApartWrong)

/-- 'juratlaw02.ShaNil': WHATEVER THE INPUT: true; the input reads as it did. -/
def shaNilSpec : ChangeSpec := { name := "shaNil", fn := fun _ => fun
  | [d] => { results := [.lit (.bool true)], args := [d] }
  | _ => none }
def shaNilRow : OpenClaim := { program := "ytegjkoohpkchbaadoor", sum := "4b3992ef926f77fc0e1ffbc05393319e3f5cbc313ecad76f1030782d9c64b093", func := "jurat/juratlaw02.ShaNil", spec := "shaNil", named := ["jurat/sha.k", "jurat/sha.begin"], apart := false, laid := [("jurat/sha.k", laid_jurat_sha_k), ("jurat/sha.begin", laid_jurat_sha_begin)] }
def ShaNilSaid : Prop := shaNilRow.holds Tryd.pinned (OpenSpec.ofChange shaNilSpec)

/-- ITS FALSE NEIGHBOUR: 'it returns false'. Refute it at one input. -/
def shaNilWrong : ChangeSpec := { name := "shaNil", fn := fun _ => fun
  | [d] => { results := [.lit (.bool false)], args := [d] }
  | _ => none }
def ShaNilWrongFalsely : Prop := shaNilRow.holds Tryd.pinned (OpenSpec.ofChange shaNilWrong)

/-- 'juratlaw03.MacSums': WHATEVER THE INPUT: true; the input reads as it did. -/
def macSumsSpec : ChangeSpec := { name := "macSums", fn := fun _ => fun
  | [d1, d2] => { results := [.lit (.bool true)], args := [d1, d2] }
  | _ => none }
def macSumsRow : OpenClaim := { program := "ytegjkoohpkchbaadoor", sum := "4b3992ef926f77fc0e1ffbc05393319e3f5cbc313ecad76f1030782d9c64b093", func := "jurat/juratlaw03.MacSums", spec := "macSums", unfollowed := true, recurses := true, named := ["jurat/sha.begin", "jurat/sha.k", "jurat/juratref02.first", "jurat/juratref02.constants"], apart := false, laid := [("jurat/juratref02.first", laid_jurat_juratref02_first), ("jurat/juratref02.constants", laid_jurat_juratref02_constants), ("jurat/sha.k", laid_jurat_sha_k), ("jurat/sha.begin", laid_jurat_sha_begin)] }
def MacSumsSaid : Prop := macSumsRow.holds Tryd.pinned (OpenSpec.ofChange macSumsSpec)

/-- ITS FALSE NEIGHBOUR: 'it returns false'. Refute it at one input. -/
def macSumsWrong : ChangeSpec := { name := "macSums", fn := fun _ => fun
  | [d1, d2] => { results := [.lit (.bool false)], args := [d1, d2] }
  | _ => none }
def MacSumsWrongFalsely : Prop := macSumsRow.holds Tryd.pinned (OpenSpec.ofChange macSumsWrong)

/-- 'juratlaw03.MacKeys': WHATEVER THE INPUT: true; the input reads as it did. -/
def macKeysSpec : ChangeSpec := { name := "macKeys", fn := fun _ => fun
  | [d1, d2, d3] => { results := [.lit (.bool true)], args := [d1, d2, d3] }
  | _ => none }
def macKeysRow : OpenClaim := { program := "ytegjkoohpkchbaadoor", sum := "4b3992ef926f77fc0e1ffbc05393319e3f5cbc313ecad76f1030782d9c64b093", func := "jurat/juratlaw03.MacKeys", spec := "macKeys", unfollowed := true, recurses := true, named := ["jurat/sha.begin", "jurat/sha.k", "jurat/juratref02.first", "jurat/juratref02.constants"], apart := false, laid := [("jurat/juratref02.first", laid_jurat_juratref02_first), ("jurat/juratref02.constants", laid_jurat_juratref02_constants), ("jurat/sha.k", laid_jurat_sha_k), ("jurat/sha.begin", laid_jurat_sha_begin)] }
def MacKeysSaid : Prop := macKeysRow.holds Tryd.pinned (OpenSpec.ofChange macKeysSpec)

/-- ITS FALSE NEIGHBOUR: 'it returns false'. Refute it at one input. -/
def macKeysWrong : ChangeSpec := { name := "macKeys", fn := fun _ => fun
  | [d1, d2, d3] => { results := [.lit (.bool false)], args := [d1, d2, d3] }
  | _ => none }
def MacKeysWrongFalsely : Prop := macKeysRow.holds Tryd.pinned (OpenSpec.ofChange macKeysWrong)

/-- 'juratlaw03.MacSeeds': WHATEVER THE INPUT: true; the input reads as it did. -/
def macSeedsSpec : ChangeSpec := { name := "macSeeds", fn := fun _ => fun
  | [d1, d2, d3] => { results := [.lit (.bool true)], args := [d1, d2, d3] }
  | _ => none }
def macSeedsRow : OpenClaim := { program := "ytegjkoohpkchbaadoor", sum := "4b3992ef926f77fc0e1ffbc05393319e3f5cbc313ecad76f1030782d9c64b093", func := "jurat/juratlaw03.MacSeeds", spec := "macSeeds", unfollowed := true, recurses := true, named := ["jurat/sha.begin", "jurat/sha.k", "jurat/juratref02.first", "jurat/juratref02.constants"], apart := false, laid := [("jurat/juratref02.first", laid_jurat_juratref02_first), ("jurat/juratref02.constants", laid_jurat_juratref02_constants), ("jurat/sha.k", laid_jurat_sha_k), ("jurat/sha.begin", laid_jurat_sha_begin)] }
def MacSeedsSaid : Prop := macSeedsRow.holds Tryd.pinned (OpenSpec.ofChange macSeedsSpec)

/-- ITS FALSE NEIGHBOUR: 'it returns false'. Refute it at one input. -/
def macSeedsWrong : ChangeSpec := { name := "macSeeds", fn := fun _ => fun
  | [d1, d2, d3] => { results := [.lit (.bool false)], args := [d1, d2, d3] }
  | _ => none }
def MacSeedsWrongFalsely : Prop := macSeedsRow.holds Tryd.pinned (OpenSpec.ofChange macSeedsWrong)

/-- 'juratlaw03.MacSame': WHATEVER THE INPUT: true; the input reads as it did. -/
def macSameSpec : ChangeSpec := { name := "macSame", fn := fun _ => fun
  | [d1, d2] => { results := [.lit (.bool true)], args := [d1, d2] }
  | _ => none }
def macSameRow : OpenClaim := { program := "ytegjkoohpkchbaadoor", sum := "4b3992ef926f77fc0e1ffbc05393319e3f5cbc313ecad76f1030782d9c64b093", func := "jurat/juratlaw03.MacSame", spec := "macSame", unfollowed := true, recurses := true, named := ["jurat/sha.begin", "jurat/sha.k"], apart := false, laid := [("jurat/sha.k", laid_jurat_sha_k), ("jurat/sha.begin", laid_jurat_sha_begin)] }
def MacSameSaid : Prop := macSameRow.holds Tryd.pinned (OpenSpec.ofChange macSameSpec)

/-- ITS FALSE NEIGHBOUR: 'it returns false'. Refute it at one input. -/
def macSameWrong : ChangeSpec := { name := "macSame", fn := fun _ => fun
  | [d1, d2] => { results := [.lit (.bool false)], args := [d1, d2] }
  | _ => none }
def MacSameWrongFalsely : Prop := macSameRow.holds Tryd.pinned (OpenSpec.ofChange macSameWrong)

/-- 'juratlaw03.MacDerives': WHATEVER THE INPUT: true; the input reads as it did. -/
def macDerivesSpec : ChangeSpec := { name := "macDerives", fn := fun _ => fun
  | [d1, d2, d3] => { results := [.lit (.bool true)], args := [d1, d2, d3] }
  | _ => none }
def macDerivesRow : OpenClaim := { program := "ytegjkoohpkchbaadoor", sum := "4b3992ef926f77fc0e1ffbc05393319e3f5cbc313ecad76f1030782d9c64b093", func := "jurat/juratlaw03.MacDerives", spec := "macDerives", unfollowed := true, recurses := true, named := ["jurat/sha.begin", "jurat/sha.k", "jurat/juratref02.first", "jurat/juratref02.constants"], apart := false, laid := [("jurat/juratref02.first", laid_jurat_juratref02_first), ("jurat/juratref02.constants", laid_jurat_juratref02_constants), ("jurat/sha.k", laid_jurat_sha_k), ("jurat/sha.begin", laid_jurat_sha_begin)] }
def MacDerivesSaid : Prop := macDerivesRow.holds Tryd.pinned (OpenSpec.ofChange macDerivesSpec)

/-- ITS FALSE NEIGHBOUR: 'it returns false'. Refute it at one input. -/
def macDerivesWrong : ChangeSpec := { name := "macDerives", fn := fun _ => fun
  | [d1, d2, d3] => { results := [.lit (.bool false)], args := [d1, d2, d3] }
  | _ => none }
def MacDerivesWrongFalsely : Prop := macDerivesRow.holds Tryd.pinned (OpenSpec.ofChange macDerivesWrong)

/-- 'juratlaw03.MacFirst': WHATEVER THE INPUT: true; the input reads as it did. -/
def macFirstSpec : ChangeSpec := { name := "macFirst", fn := fun _ => fun
  | [d1, d2, d3] => { results := [.lit (.bool true)], args := [d1, d2, d3] }
  | _ => none }
def macFirstRow : OpenClaim := { program := "ytegjkoohpkchbaadoor", sum := "4b3992ef926f77fc0e1ffbc05393319e3f5cbc313ecad76f1030782d9c64b093", func := "jurat/juratlaw03.MacFirst", spec := "macFirst", unfollowed := true, recurses := true, named := ["jurat/sha.begin", "jurat/sha.k"], apart := false, laid := [("jurat/sha.k", laid_jurat_sha_k), ("jurat/sha.begin", laid_jurat_sha_begin)] }
def MacFirstSaid : Prop := macFirstRow.holds Tryd.pinned (OpenSpec.ofChange macFirstSpec)

/-- ITS FALSE NEIGHBOUR: 'it returns false'. Refute it at one input. -/
def macFirstWrong : ChangeSpec := { name := "macFirst", fn := fun _ => fun
  | [d1, d2, d3] => { results := [.lit (.bool false)], args := [d1, d2, d3] }
  | _ => none }
def MacFirstWrongFalsely : Prop := macFirstRow.holds Tryd.pinned (OpenSpec.ofChange macFirstWrong)

/- THE SECOND FORM. 'bulk': how many values and letters a reading holds, each counted each time it is reached (what is shared counts as often as it is met; a slice's spare places count too). A statement '..UptoSaid' is the law's where the arguments, and the package variables that the reading takes, are together of bulk at most 1048576: NARROWER than '..Said'. Prove '..Said' where nothing that the law and all that it calls make is longer than what came in: it says more and counts as full. Else prove '..UptoSaid'. A law counts once. -/
mutual
def uptoBulk {H : Type} : DataW H → Nat
  | .lit (.string bytes) => bytes.length + 1
  | .lit _ => 1
  | .nil => 1
  | .ptr d => uptoBulk d + 1
  | .slice elems spare => uptoBulkAll elems + uptoBulkAll spare + 1
  | .agg parts => uptoBulkAll parts + 1
  | .iface _ d => uptoBulk d + 1
  | .map entries => uptoBulkEntries entries + 1
  | .held _ => 1
def uptoBulkAll {H : Type} : List (DataW H) → Nat
  | [] => 0
  | d :: r => uptoBulk d + uptoBulkAll r
def uptoBulkEntries {H : Type} : List (Lit × DataW H) → Nat
  | [] => 0
  | x :: r => uptoBulkEntry x + uptoBulkEntries r
def uptoBulkEntry {H : Type} : Lit × DataW H → Nat
  | (.string bytes, d) => bytes.length + uptoBulk d + 1
  | (_, d) => uptoBulk d + 1
 end
def uptoSmall : (H : Type) → List (DataW H) → Bool := fun _ ds => decide (uptoBulkAll ds ≤ 1048576)
def OpenSpec.upto (s : _root_.Go.ChangeSpec) : _root_.Go.OpenSpec := { _root_.Go.OpenSpec.ofChange s with cond := some uptoSmall }

/-- 'juratlaw02.ShaSums', WHERE WHAT IT READS IS OF BULK AT MOST 1048576: true; the input reads as it did. -/
def shaSumsUptoRow : OpenClaim := { program := "ytegjkoohpkchbaadoor", sum := "4b3992ef926f77fc0e1ffbc05393319e3f5cbc313ecad76f1030782d9c64b093", func := "jurat/juratlaw02.ShaSums", spec := "shaSums", named := ["jurat/sha.begin", "jurat/sha.k", "jurat/juratref02.first", "jurat/juratref02.constants"], apart := false, laid := [("jurat/juratref02.first", laid_jurat_juratref02_first), ("jurat/juratref02.constants", laid_jurat_juratref02_constants), ("jurat/sha.k", laid_jurat_sha_k), ("jurat/sha.begin", laid_jurat_sha_begin)], narrowed := true }
def ShaSumsUptoSaid : Prop := shaSumsUptoRow.holds Tryd.pinned (OpenSpec.upto shaSumsSpec)

/-- 'juratlaw02.ShaBlocks', WHERE WHAT IT READS IS OF BULK AT MOST 1048576: true; the input reads as it did. -/
def shaBlocksUptoRow : OpenClaim := { program := "ytegjkoohpkchbaadoor", sum := "4b3992ef926f77fc0e1ffbc05393319e3f5cbc313ecad76f1030782d9c64b093", func := "jurat/juratlaw02.ShaBlocks", spec := "shaBlocks", named := ["jurat/sha.k", "jurat/sha.begin", "jurat/juratref02.constants"], apart := false, laid := [("jurat/juratref02.constants", laid_jurat_juratref02_constants), ("jurat/sha.k", laid_jurat_sha_k), ("jurat/sha.begin", laid_jurat_sha_begin)], narrowed := true }
def ShaBlocksUptoSaid : Prop := shaBlocksUptoRow.holds Tryd.pinned (OpenSpec.upto shaBlocksSpec)

/-- 'juratlaw02.ShaPads', WHERE WHAT IT READS IS OF BULK AT MOST 1048576: true; the input reads as it did. -/
def shaPadsUptoRow : OpenClaim := { program := "ytegjkoohpkchbaadoor", sum := "4b3992ef926f77fc0e1ffbc05393319e3f5cbc313ecad76f1030782d9c64b093", func := "jurat/juratlaw02.ShaPads", spec := "shaPads", named := ["jurat/sha.begin", "jurat/sha.k"], apart := false, laid := [("jurat/sha.k", laid_jurat_sha_k), ("jurat/sha.begin", laid_jurat_sha_begin)], narrowed := true }
def ShaPadsUptoSaid : Prop := shaPadsUptoRow.holds Tryd.pinned (OpenSpec.upto shaPadsSpec)

/-- 'juratlaw02.ShaSplits', WHERE WHAT IT READS IS OF BULK AT MOST 1048576: true; the input reads as it did. -/
def shaSplitsUptoRow : OpenClaim := { program := "ytegjkoohpkchbaadoor", sum := "4b3992ef926f77fc0e1ffbc05393319e3f5cbc313ecad76f1030782d9c64b093", func := "jurat/juratlaw02.ShaSplits", spec := "shaSplits", named := ["jurat/sha.begin", "jurat/sha.k"], apart := false, laid := [("jurat/sha.k", laid_jurat_sha_k), ("jurat/sha.begin", laid_jurat_sha_begin)], narrowed := true }
def ShaSplitsUptoSaid : Prop := shaSplitsUptoRow.holds Tryd.pinned (OpenSpec.upto shaSplitsSpec)

/-- 'juratlaw02.ShaApart', WHERE WHAT IT READS IS OF BULK AT MOST 1048576: true; the input reads as it did. -/
def shaApartUptoRow : OpenClaim := { program := "ytegjkoohpkchbaadoor", sum := "4b3992ef926f77fc0e1ffbc05393319e3f5cbc313ecad76f1030782d9c64b093", func := "jurat/juratlaw02.ShaApart", spec := "shaApart", named := ["jurat/sha.begin", "jurat/sha.k", "jurat/juratref02.first", "jurat/juratref02.constants"], apart := false, laid := [("jurat/juratref02.first", laid_jurat_juratref02_first), ("jurat/juratref02.constants", laid_jurat_juratref02_constants), ("jurat/sha.k", laid_jurat_sha_k), ("jurat/sha.begin", laid_jurat_sha_begin)], narrowed := true }
def ShaApartUptoSaid : Prop := shaApartUptoRow.holds Tryd.pinned (OpenSpec.upto shaApartSpec)

/-- 'juratlaw02.ShaNil', WHERE WHAT IT READS IS OF BULK AT MOST 1048576: true; the input reads as it did. -/
def shaNilUptoRow : OpenClaim := { program := "ytegjkoohpkchbaadoor", sum := "4b3992ef926f77fc0e1ffbc05393319e3f5cbc313ecad76f1030782d9c64b093", func := "jurat/juratlaw02.ShaNil", spec := "shaNil", named := ["jurat/sha.k", "jurat/sha.begin"], apart := false, laid := [("jurat/sha.k", laid_jurat_sha_k), ("jurat/sha.begin", laid_jurat_sha_begin)], narrowed := true }
def ShaNilUptoSaid : Prop := shaNilUptoRow.holds Tryd.pinned (OpenSpec.upto shaNilSpec)

/-- 'juratlaw03.MacSums', WHERE WHAT IT READS IS OF BULK AT MOST 1048576: true; the input reads as it did. -/
def macSumsUptoRow : OpenClaim := { program := "ytegjkoohpkchbaadoor", sum := "4b3992ef926f77fc0e1ffbc05393319e3f5cbc313ecad76f1030782d9c64b093", func := "jurat/juratlaw03.MacSums", spec := "macSums", unfollowed := true, recurses := true, named := ["jurat/sha.begin", "jurat/sha.k", "jurat/juratref02.first", "jurat/juratref02.constants"], apart := false, laid := [("jurat/juratref02.first", laid_jurat_juratref02_first), ("jurat/juratref02.constants", laid_jurat_juratref02_constants), ("jurat/sha.k", laid_jurat_sha_k), ("jurat/sha.begin", laid_jurat_sha_begin)], narrowed := true }
def MacSumsUptoSaid : Prop := macSumsUptoRow.holds Tryd.pinned (OpenSpec.upto macSumsSpec)

/-- 'juratlaw03.MacKeys', WHERE WHAT IT READS IS OF BULK AT MOST 1048576: true; the input reads as it did. -/
def macKeysUptoRow : OpenClaim := { program := "ytegjkoohpkchbaadoor", sum := "4b3992ef926f77fc0e1ffbc05393319e3f5cbc313ecad76f1030782d9c64b093", func := "jurat/juratlaw03.MacKeys", spec := "macKeys", unfollowed := true, recurses := true, named := ["jurat/sha.begin", "jurat/sha.k", "jurat/juratref02.first", "jurat/juratref02.constants"], apart := false, laid := [("jurat/juratref02.first", laid_jurat_juratref02_first), ("jurat/juratref02.constants", laid_jurat_juratref02_constants), ("jurat/sha.k", laid_jurat_sha_k), ("jurat/sha.begin", laid_jurat_sha_begin)], narrowed := true }
def MacKeysUptoSaid : Prop := macKeysUptoRow.holds Tryd.pinned (OpenSpec.upto macKeysSpec)

/-- 'juratlaw03.MacSeeds', WHERE WHAT IT READS IS OF BULK AT MOST 1048576: true; the input reads as it did. -/
def macSeedsUptoRow : OpenClaim := { program := "ytegjkoohpkchbaadoor", sum := "4b3992ef926f77fc0e1ffbc05393319e3f5cbc313ecad76f1030782d9c64b093", func := "jurat/juratlaw03.MacSeeds", spec := "macSeeds", unfollowed := true, recurses := true, named := ["jurat/sha.begin", "jurat/sha.k", "jurat/juratref02.first", "jurat/juratref02.constants"], apart := false, laid := [("jurat/juratref02.first", laid_jurat_juratref02_first), ("jurat/juratref02.constants", laid_jurat_juratref02_constants), ("jurat/sha.k", laid_jurat_sha_k), ("jurat/sha.begin", laid_jurat_sha_begin)], narrowed := true }
def MacSeedsUptoSaid : Prop := macSeedsUptoRow.holds Tryd.pinned (OpenSpec.upto macSeedsSpec)

/-- 'juratlaw03.MacSame', WHERE WHAT IT READS IS OF BULK AT MOST 1048576: true; the input reads as it did. -/
def macSameUptoRow : OpenClaim := { program := "ytegjkoohpkchbaadoor", sum := "4b3992ef926f77fc0e1ffbc05393319e3f5cbc313ecad76f1030782d9c64b093", func := "jurat/juratlaw03.MacSame", spec := "macSame", unfollowed := true, recurses := true, named := ["jurat/sha.begin", "jurat/sha.k"], apart := false, laid := [("jurat/sha.k", laid_jurat_sha_k), ("jurat/sha.begin", laid_jurat_sha_begin)], narrowed := true }
def MacSameUptoSaid : Prop := macSameUptoRow.holds Tryd.pinned (OpenSpec.upto macSameSpec)

/-- 'juratlaw03.MacDerives', WHERE WHAT IT READS IS OF BULK AT MOST 1048576: true; the input reads as it did. -/
def macDerivesUptoRow : OpenClaim := { program := "ytegjkoohpkchbaadoor", sum := "4b3992ef926f77fc0e1ffbc05393319e3f5cbc313ecad76f1030782d9c64b093", func := "jurat/juratlaw03.MacDerives", spec := "macDerives", unfollowed := true, recurses := true, named := ["jurat/sha.begin", "jurat/sha.k", "jurat/juratref02.first", "jurat/juratref02.constants"], apart := false, laid := [("jurat/juratref02.first", laid_jurat_juratref02_first), ("jurat/juratref02.constants", laid_jurat_juratref02_constants), ("jurat/sha.k", laid_jurat_sha_k), ("jurat/sha.begin", laid_jurat_sha_begin)], narrowed := true }
def MacDerivesUptoSaid : Prop := macDerivesUptoRow.holds Tryd.pinned (OpenSpec.upto macDerivesSpec)

/-- 'juratlaw03.MacFirst', WHERE WHAT IT READS IS OF BULK AT MOST 1048576: true; the input reads as it did. -/
def macFirstUptoRow : OpenClaim := { program := "ytegjkoohpkchbaadoor", sum := "4b3992ef926f77fc0e1ffbc05393319e3f5cbc313ecad76f1030782d9c64b093", func := "jurat/juratlaw03.MacFirst", spec := "macFirst", unfollowed := true, recurses := true, named := ["jurat/sha.begin", "jurat/sha.k"], apart := false, laid := [("jurat/sha.k", laid_jurat_sha_k), ("jurat/sha.begin", laid_jurat_sha_begin)], narrowed := true }
def MacFirstUptoSaid : Prop := macFirstUptoRow.holds Tryd.pinned (OpenSpec.upto macFirstSpec)

end Rows
end Go.Proofs.YtegjkoohpkchbaaDoor
