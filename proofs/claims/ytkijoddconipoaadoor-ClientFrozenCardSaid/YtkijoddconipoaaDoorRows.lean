/-
  NARROWER THAN 'FOR EVERY INPUT', by the rows' own cells (each row's printed sentence says how): TreeRoots: laid · TreeLong: laid · TreeWays: laid · TreeFolds: laid · TreeSmall: laid · ClientFrozen: laid · ClientEither: laid · ClientPlays: laid · ClientHonest: laid · ClientFull: laid · TreeLeads: laid · TreeSame: laid · ProofChecks: laid · ProofMakes: laid · ProofRight: laid · ProofEnds: laid.
  DERIVED. THE GIVEN ROWS OF THIS SEAT. 16 by the template 'for every input the law returns true; each argument reads behind the call as it read before'; 0 by the template 'total and deterministic' (their statements: YtkijoddconipoaaDoorTotals.lean).
  GIVEN WITH THE SEED: the statements are not yours to turn. If you find one false, say at which input.
  Laid BY PROGRAM, IN A SANDBOX (cutbox-rows.mjs): the forced cells as the released guide's own fill.sh prints them over the translation c1eafc3d57d989d1… (all of the seat's roots in one cut). By AI agents, Wed Nov 11 2026. No macro, syntax, notation, axiom, sorry.
-/
import Derived.Test.YtkijoddconipoaaDoorChecked
import GoSem.Claim
import GoSem.ClaimJoined
import GoSem.ClaimMapViews
import Derived.JoinedTies
import Derived.KernelRfl
namespace Go.Proofs.YtkijoddconipoaaDoor
/- THE CELL 'sum', in the pinned program and in every row, IS THE sha256 OF THE DUMP (.gsa) THAT YtkijoddconipoaaDoorProg.lean LOADS. Nothing in Lean hashes anything: it is a label: what it is worth is what the hold of that sum in a sandbox is worth. -/
noncomputable def Tryd.pinned : Pinned := { name := "ytkijoddconipoaadoor", sum := "c1eafc3d57d989d1826ba1d89d9f016a14da04936eab23e79eb7ea396730cc53", checked := Tryd.checked }
namespace Rows
def none {H : Type} : Left H := { results := [], args := [] }

/- WHAT THE LISTED PACKAGE-LEVEL VARIABLES READ AS WHEN THE CALL BEGINS. Each datum BY PROGRAM (the guide's laid-datum.mjs) off the statement by which the dump's own 'gosem.cut.vars' lays the variable. In a bare row this is a premise. The card (YtkijoddconipoaaDoorCards.lean) ties it to the program's text. -/
def laid_twinspan_hash_factors {H : Type} : DataW H := .agg [.lit (.int .u32 1116352408), .lit (.int .u32 1899447441), .lit (.int .u32 3049323471), .lit (.int .u32 3921009573), .lit (.int .u32 961987163), .lit (.int .u32 1508970993), .lit (.int .u32 2453635748), .lit (.int .u32 2870763221), .lit (.int .u32 3624381080), .lit (.int .u32 310598401), .lit (.int .u32 607225278), .lit (.int .u32 1426881987), .lit (.int .u32 1925078388), .lit (.int .u32 2162078206), .lit (.int .u32 2614888103), .lit (.int .u32 3248222580), .lit (.int .u32 3835390401), .lit (.int .u32 4022224774), .lit (.int .u32 264347078), .lit (.int .u32 604807628), .lit (.int .u32 770255983), .lit (.int .u32 1249150122), .lit (.int .u32 1555081692), .lit (.int .u32 1996064986), .lit (.int .u32 2554220882), .lit (.int .u32 2821834349), .lit (.int .u32 2952996808), .lit (.int .u32 3210313671), .lit (.int .u32 3336571891), .lit (.int .u32 3584528711), .lit (.int .u32 113926993), .lit (.int .u32 338241895), .lit (.int .u32 666307205), .lit (.int .u32 773529912), .lit (.int .u32 1294757372), .lit (.int .u32 1396182291), .lit (.int .u32 1695183700), .lit (.int .u32 1986661051), .lit (.int .u32 2177026350), .lit (.int .u32 2456956037), .lit (.int .u32 2730485921), .lit (.int .u32 2820302411), .lit (.int .u32 3259730800), .lit (.int .u32 3345764771), .lit (.int .u32 3516065817), .lit (.int .u32 3600352804), .lit (.int .u32 4094571909), .lit (.int .u32 275423344), .lit (.int .u32 430227734), .lit (.int .u32 506948616), .lit (.int .u32 659060556), .lit (.int .u32 883997877), .lit (.int .u32 958139571), .lit (.int .u32 1322822218), .lit (.int .u32 1537002063), .lit (.int .u32 1747873779), .lit (.int .u32 1955562222), .lit (.int .u32 2024104815), .lit (.int .u32 2227730452), .lit (.int .u32 2361852424), .lit (.int .u32 2428436474), .lit (.int .u32 2756734187), .lit (.int .u32 3204031479), .lit (.int .u32 3329325298)]
def laid_twinspan_hash_begin {H : Type} : DataW H := .agg [.lit (.int .u32 1779033703), .lit (.int .u32 3144134277), .lit (.int .u32 1013904242), .lit (.int .u32 2773480762), .lit (.int .u32 1359893119), .lit (.int .u32 2600822924), .lit (.int .u32 528734635), .lit (.int .u32 1541459225)]

/-- 'twinspanlaw09.TreeRoots': WHATEVER THE INPUT: true; the input reads as it did. -/
def treeRootsSpec : ChangeSpec := { name := "treeRoots", fn := fun _ => fun
  | [d1, d2, d3] => { results := [.lit (.bool true)], args := [d1, d2, d3] }
  | _ => none }
def treeRootsRow : OpenClaim := { program := "ytkijoddconipoaadoor", sum := "c1eafc3d57d989d1826ba1d89d9f016a14da04936eab23e79eb7ea396730cc53", func := "twinspan/twinspanlaw09.TreeRoots", spec := "treeRoots", inPlace := ["internal/bytealg.abigen_runtime_cmpstring", "slices.overlaps[twinspan/api.Entry]", "internal/abi.NoEscape", "internal/bytealg.MakeNoZero"], unfollowed := true, recurses := true, named := ["twinspan/hash.begin", "twinspan/hash.factors"], apart := false, laid := [("twinspan/hash.factors", laid_twinspan_hash_factors), ("twinspan/hash.begin", laid_twinspan_hash_begin)] }
def TreeRootsSaid : Prop := treeRootsRow.holds Tryd.pinned (OpenSpec.ofChange treeRootsSpec)

/-- ITS FALSE NEIGHBOUR: 'it returns false'. Refute it at one input. -/
def treeRootsWrong : ChangeSpec := { name := "treeRoots", fn := fun _ => fun
  | [d1, d2, d3] => { results := [.lit (.bool false)], args := [d1, d2, d3] }
  | _ => none }
def TreeRootsWrongFalsely : Prop := treeRootsRow.holds Tryd.pinned (OpenSpec.ofChange treeRootsWrong)

/-- 'twinspanlaw09.TreeLong': WHATEVER THE INPUT: true; the input reads as it did. -/
def treeLongSpec : ChangeSpec := { name := "treeLong", fn := fun _ => fun
  | [d1, d2] => { results := [.lit (.bool true)], args := [d1, d2] }
  | _ => none }
def treeLongRow : OpenClaim := { program := "ytkijoddconipoaadoor", sum := "c1eafc3d57d989d1826ba1d89d9f016a14da04936eab23e79eb7ea396730cc53", func := "twinspan/twinspanlaw09.TreeLong", spec := "treeLong", inPlace := ["internal/bytealg.abigen_runtime_cmpstring", "slices.overlaps[twinspan/api.Entry]", "internal/abi.NoEscape", "internal/bytealg.MakeNoZero"], unfollowed := true, recurses := true, named := ["twinspan/hash.begin", "twinspan/hash.factors"], apart := false, laid := [("twinspan/hash.factors", laid_twinspan_hash_factors), ("twinspan/hash.begin", laid_twinspan_hash_begin)] }
def TreeLongSaid : Prop := treeLongRow.holds Tryd.pinned (OpenSpec.ofChange treeLongSpec)

/-- ITS FALSE NEIGHBOUR: 'it returns false'. Refute it at one input. -/
def treeLongWrong : ChangeSpec := { name := "treeLong", fn := fun _ => fun
  | [d1, d2] => { results := [.lit (.bool false)], args := [d1, d2] }
  | _ => none }
def TreeLongWrongFalsely : Prop := treeLongRow.holds Tryd.pinned (OpenSpec.ofChange treeLongWrong)

/-- 'twinspanlaw09.TreeWays': WHATEVER THE INPUT: true; the input reads as it did. -/
def treeWaysSpec : ChangeSpec := { name := "treeWays", fn := fun _ => fun
  | [d1, d2, d3] => { results := [.lit (.bool true)], args := [d1, d2, d3] }
  | _ => none }
def treeWaysRow : OpenClaim := { program := "ytkijoddconipoaadoor", sum := "c1eafc3d57d989d1826ba1d89d9f016a14da04936eab23e79eb7ea396730cc53", func := "twinspan/twinspanlaw09.TreeWays", spec := "treeWays", inPlace := ["internal/bytealg.abigen_runtime_cmpstring", "slices.overlaps[twinspan/api.Entry]", "internal/abi.NoEscape", "internal/bytealg.MakeNoZero"], unfollowed := true, recurses := true, named := ["twinspan/hash.begin", "twinspan/hash.factors"], apart := false, laid := [("twinspan/hash.factors", laid_twinspan_hash_factors), ("twinspan/hash.begin", laid_twinspan_hash_begin)] }
def TreeWaysSaid : Prop := treeWaysRow.holds Tryd.pinned (OpenSpec.ofChange treeWaysSpec)

/-- ITS FALSE NEIGHBOUR: 'it returns false'. Refute it at one input. -/
def treeWaysWrong : ChangeSpec := { name := "treeWays", fn := fun _ => fun
  | [d1, d2, d3] => { results := [.lit (.bool false)], args := [d1, d2, d3] }
  | _ => none }
def TreeWaysWrongFalsely : Prop := treeWaysRow.holds Tryd.pinned (OpenSpec.ofChange treeWaysWrong)

/-- 'twinspanlaw09.TreeFolds': WHATEVER THE INPUT: true; the input reads as it did. -/
def treeFoldsSpec : ChangeSpec := { name := "treeFolds", fn := fun _ => fun
  | [d1, d2, d3] => { results := [.lit (.bool true)], args := [d1, d2, d3] }
  | _ => none }
def treeFoldsRow : OpenClaim := { program := "ytkijoddconipoaadoor", sum := "c1eafc3d57d989d1826ba1d89d9f016a14da04936eab23e79eb7ea396730cc53", func := "twinspan/twinspanlaw09.TreeFolds", spec := "treeFolds", inPlace := ["internal/bytealg.abigen_runtime_cmpstring", "slices.overlaps[twinspan/api.Entry]", "internal/abi.NoEscape", "internal/bytealg.MakeNoZero"], unfollowed := true, recurses := true, named := ["twinspan/hash.begin", "twinspan/hash.factors"], apart := false, laid := [("twinspan/hash.factors", laid_twinspan_hash_factors), ("twinspan/hash.begin", laid_twinspan_hash_begin)] }
def TreeFoldsSaid : Prop := treeFoldsRow.holds Tryd.pinned (OpenSpec.ofChange treeFoldsSpec)

/-- ITS FALSE NEIGHBOUR: 'it returns false'. Refute it at one input. -/
def treeFoldsWrong : ChangeSpec := { name := "treeFolds", fn := fun _ => fun
  | [d1, d2, d3] => { results := [.lit (.bool false)], args := [d1, d2, d3] }
  | _ => none }
def TreeFoldsWrongFalsely : Prop := treeFoldsRow.holds Tryd.pinned (OpenSpec.ofChange treeFoldsWrong)

/-- 'twinspanlaw09.TreeSmall': WHATEVER THE INPUT: true; the input reads as it did. -/
def treeSmallSpec : ChangeSpec := { name := "treeSmall", fn := fun _ => fun
  | [d] => { results := [.lit (.bool true)], args := [d] }
  | _ => none }
def treeSmallRow : OpenClaim := { program := "ytkijoddconipoaadoor", sum := "c1eafc3d57d989d1826ba1d89d9f016a14da04936eab23e79eb7ea396730cc53", func := "twinspan/twinspanlaw09.TreeSmall", spec := "treeSmall", inPlace := ["internal/bytealg.abigen_runtime_cmpstring", "slices.overlaps[twinspan/api.Entry]", "internal/abi.NoEscape", "internal/bytealg.MakeNoZero"], unfollowed := true, recurses := true, named := ["twinspan/hash.begin", "twinspan/hash.factors"], apart := false, laid := [("twinspan/hash.factors", laid_twinspan_hash_factors), ("twinspan/hash.begin", laid_twinspan_hash_begin)] }
def TreeSmallSaid : Prop := treeSmallRow.holds Tryd.pinned (OpenSpec.ofChange treeSmallSpec)

/-- ITS FALSE NEIGHBOUR: 'it returns false'. Refute it at one input. -/
def treeSmallWrong : ChangeSpec := { name := "treeSmall", fn := fun _ => fun
  | [d] => { results := [.lit (.bool false)], args := [d] }
  | _ => none }
def TreeSmallWrongFalsely : Prop := treeSmallRow.holds Tryd.pinned (OpenSpec.ofChange treeSmallWrong)

/-- 'twinspanlaw14.ClientFrozen': WHATEVER THE INPUT: true; the input reads as it did. -/
def clientFrozenSpec : ChangeSpec := { name := "clientFrozen", fn := fun _ => fun
  | [d1, d2] => { results := [.lit (.bool true)], args := [d1, d2] }
  | _ => none }
def clientFrozenRow : OpenClaim := { program := "ytkijoddconipoaadoor", sum := "c1eafc3d57d989d1826ba1d89d9f016a14da04936eab23e79eb7ea396730cc53", func := "twinspan/twinspanlaw14.ClientFrozen", spec := "clientFrozen", inPlace := ["internal/abi.NoEscape", "internal/bytealg.MakeNoZero", "slices.overlaps[twinspan/api.State]"], unfollowed := true, recurses := true, named := ["twinspan/hash.begin", "twinspan/hash.factors"], apart := false, laid := [("twinspan/hash.factors", laid_twinspan_hash_factors), ("twinspan/hash.begin", laid_twinspan_hash_begin)] }
def ClientFrozenSaid : Prop := clientFrozenRow.holds Tryd.pinned (OpenSpec.ofChange clientFrozenSpec)

/-- ITS FALSE NEIGHBOUR: 'it returns false'. Refute it at one input. -/
def clientFrozenWrong : ChangeSpec := { name := "clientFrozen", fn := fun _ => fun
  | [d1, d2] => { results := [.lit (.bool false)], args := [d1, d2] }
  | _ => none }
def ClientFrozenWrongFalsely : Prop := clientFrozenRow.holds Tryd.pinned (OpenSpec.ofChange clientFrozenWrong)

/-- 'twinspanlaw14.ClientEither': WHATEVER THE INPUT: true; the input reads as it did. -/
def clientEitherSpec : ChangeSpec := { name := "clientEither", fn := fun _ => fun
  | [d] => { results := [.lit (.bool true)], args := [d] }
  | _ => none }
def clientEitherRow : OpenClaim := { program := "ytkijoddconipoaadoor", sum := "c1eafc3d57d989d1826ba1d89d9f016a14da04936eab23e79eb7ea396730cc53", func := "twinspan/twinspanlaw14.ClientEither", spec := "clientEither", inPlace := ["internal/abi.NoEscape", "internal/bytealg.MakeNoZero", "slices.overlaps[twinspan/api.State]"], unfollowed := true, recurses := true, named := ["twinspan/hash.begin", "twinspan/hash.factors"], apart := false, laid := [("twinspan/hash.factors", laid_twinspan_hash_factors), ("twinspan/hash.begin", laid_twinspan_hash_begin)] }
def ClientEitherSaid : Prop := clientEitherRow.holds Tryd.pinned (OpenSpec.ofChange clientEitherSpec)

/-- ITS FALSE NEIGHBOUR: 'it returns false'. Refute it at one input. -/
def clientEitherWrong : ChangeSpec := { name := "clientEither", fn := fun _ => fun
  | [d] => { results := [.lit (.bool false)], args := [d] }
  | _ => none }
def ClientEitherWrongFalsely : Prop := clientEitherRow.holds Tryd.pinned (OpenSpec.ofChange clientEitherWrong)

/-- 'twinspanlaw14.ClientPlays': WHATEVER THE INPUT: true; the input reads as it did. -/
def clientPlaysSpec : ChangeSpec := { name := "clientPlays", fn := fun _ => fun
  | [d1, d2, d3] => { results := [.lit (.bool true)], args := [d1, d2, d3] }
  | _ => none }
def clientPlaysRow : OpenClaim := { program := "ytkijoddconipoaadoor", sum := "c1eafc3d57d989d1826ba1d89d9f016a14da04936eab23e79eb7ea396730cc53", func := "twinspan/twinspanlaw14.ClientPlays", spec := "clientPlays", inPlace := ["internal/abi.NoEscape", "internal/bytealg.MakeNoZero", "slices.overlaps[twinspan/api.State]"], unfollowed := true, recurses := true, named := ["twinspan/hash.begin", "twinspan/hash.factors"], apart := false, laid := [("twinspan/hash.factors", laid_twinspan_hash_factors), ("twinspan/hash.begin", laid_twinspan_hash_begin)] }
def ClientPlaysSaid : Prop := clientPlaysRow.holds Tryd.pinned (OpenSpec.ofChange clientPlaysSpec)

/-- ITS FALSE NEIGHBOUR: 'it returns false'. Refute it at one input. -/
def clientPlaysWrong : ChangeSpec := { name := "clientPlays", fn := fun _ => fun
  | [d1, d2, d3] => { results := [.lit (.bool false)], args := [d1, d2, d3] }
  | _ => none }
def ClientPlaysWrongFalsely : Prop := clientPlaysRow.holds Tryd.pinned (OpenSpec.ofChange clientPlaysWrong)

/-- 'twinspanlaw14.ClientHonest': WHATEVER THE INPUT: true; the input reads as it did. -/
def clientHonestSpec : ChangeSpec := { name := "clientHonest", fn := fun _ => fun
  | [d1, d2, d3] => { results := [.lit (.bool true)], args := [d1, d2, d3] }
  | _ => none }
def clientHonestRow : OpenClaim := { program := "ytkijoddconipoaadoor", sum := "c1eafc3d57d989d1826ba1d89d9f016a14da04936eab23e79eb7ea396730cc53", func := "twinspan/twinspanlaw14.ClientHonest", spec := "clientHonest", inPlace := ["internal/abi.NoEscape", "internal/bytealg.MakeNoZero", "slices.overlaps[twinspan/api.State]"], unfollowed := true, recurses := true, named := ["twinspan/hash.begin", "twinspan/hash.factors"], apart := false, laid := [("twinspan/hash.factors", laid_twinspan_hash_factors), ("twinspan/hash.begin", laid_twinspan_hash_begin)] }
def ClientHonestSaid : Prop := clientHonestRow.holds Tryd.pinned (OpenSpec.ofChange clientHonestSpec)

/-- ITS FALSE NEIGHBOUR: 'it returns false'. Refute it at one input. -/
def clientHonestWrong : ChangeSpec := { name := "clientHonest", fn := fun _ => fun
  | [d1, d2, d3] => { results := [.lit (.bool false)], args := [d1, d2, d3] }
  | _ => none }
def ClientHonestWrongFalsely : Prop := clientHonestRow.holds Tryd.pinned (OpenSpec.ofChange clientHonestWrong)

/-- 'twinspanlaw14.ClientFull': WHATEVER THE INPUT: true; the input reads as it did. -/
def clientFullSpec : ChangeSpec := { name := "clientFull", fn := fun _ => fun
  | [d] => { results := [.lit (.bool true)], args := [d] }
  | _ => none }
def clientFullRow : OpenClaim := { program := "ytkijoddconipoaadoor", sum := "c1eafc3d57d989d1826ba1d89d9f016a14da04936eab23e79eb7ea396730cc53", func := "twinspan/twinspanlaw14.ClientFull", spec := "clientFull", inPlace := ["internal/abi.NoEscape", "internal/bytealg.MakeNoZero", "slices.overlaps[twinspan/api.State]"], unfollowed := true, recurses := true, named := ["twinspan/hash.begin", "twinspan/hash.factors"], apart := false, laid := [("twinspan/hash.factors", laid_twinspan_hash_factors), ("twinspan/hash.begin", laid_twinspan_hash_begin)] }
def ClientFullSaid : Prop := clientFullRow.holds Tryd.pinned (OpenSpec.ofChange clientFullSpec)

/-- ITS FALSE NEIGHBOUR: 'it returns false'. Refute it at one input. -/
def clientFullWrong : ChangeSpec := { name := "clientFull", fn := fun _ => fun
  | [d] => { results := [.lit (.bool false)], args := [d] }
  | _ => none }
def ClientFullWrongFalsely : Prop := clientFullRow.holds Tryd.pinned (OpenSpec.ofChange clientFullWrong)

/-- 'twinspanlaw09.TreeLeads': WHATEVER THE INPUT: true; the input reads as it did. -/
def treeLeadsSpec : ChangeSpec := { name := "treeLeads", fn := fun _ => fun
  | [d1, d2] => { results := [.lit (.bool true)], args := [d1, d2] }
  | _ => none }
def treeLeadsRow : OpenClaim := { program := "ytkijoddconipoaadoor", sum := "c1eafc3d57d989d1826ba1d89d9f016a14da04936eab23e79eb7ea396730cc53", func := "twinspan/twinspanlaw09.TreeLeads", spec := "treeLeads", inPlace := ["internal/bytealg.abigen_runtime_cmpstring", "slices.overlaps[twinspan/api.Entry]", "internal/abi.NoEscape", "internal/bytealg.MakeNoZero"], unfollowed := true, recurses := true, named := ["twinspan/hash.begin", "twinspan/hash.factors"], apart := false, laid := [("twinspan/hash.factors", laid_twinspan_hash_factors), ("twinspan/hash.begin", laid_twinspan_hash_begin)] }
def TreeLeadsSaid : Prop := treeLeadsRow.holds Tryd.pinned (OpenSpec.ofChange treeLeadsSpec)

/-- ITS FALSE NEIGHBOUR: 'it returns false'. Refute it at one input. -/
def treeLeadsWrong : ChangeSpec := { name := "treeLeads", fn := fun _ => fun
  | [d1, d2] => { results := [.lit (.bool false)], args := [d1, d2] }
  | _ => none }
def TreeLeadsWrongFalsely : Prop := treeLeadsRow.holds Tryd.pinned (OpenSpec.ofChange treeLeadsWrong)

/-- 'twinspanlaw09.TreeSame': WHATEVER THE INPUT: true; the input reads as it did. -/
def treeSameSpec : ChangeSpec := { name := "treeSame", fn := fun _ => fun
  | [d1, d2] => { results := [.lit (.bool true)], args := [d1, d2] }
  | _ => none }
def treeSameRow : OpenClaim := { program := "ytkijoddconipoaadoor", sum := "c1eafc3d57d989d1826ba1d89d9f016a14da04936eab23e79eb7ea396730cc53", func := "twinspan/twinspanlaw09.TreeSame", spec := "treeSame", inPlace := ["internal/bytealg.abigen_runtime_cmpstring", "slices.overlaps[twinspan/api.Entry]", "internal/abi.NoEscape", "internal/bytealg.MakeNoZero"], unfollowed := true, recurses := true, named := ["twinspan/hash.begin", "twinspan/hash.factors"], apart := false, laid := [("twinspan/hash.factors", laid_twinspan_hash_factors), ("twinspan/hash.begin", laid_twinspan_hash_begin)] }
def TreeSameSaid : Prop := treeSameRow.holds Tryd.pinned (OpenSpec.ofChange treeSameSpec)

/-- ITS FALSE NEIGHBOUR: 'it returns false'. Refute it at one input. -/
def treeSameWrong : ChangeSpec := { name := "treeSame", fn := fun _ => fun
  | [d1, d2] => { results := [.lit (.bool false)], args := [d1, d2] }
  | _ => none }
def TreeSameWrongFalsely : Prop := treeSameRow.holds Tryd.pinned (OpenSpec.ofChange treeSameWrong)

/-- 'twinspanlaw10.ProofChecks': WHATEVER THE INPUT: true; the input reads as it did. -/
def proofChecksSpec : ChangeSpec := { name := "proofChecks", fn := fun _ => fun
  | [d1, d2, d3] => { results := [.lit (.bool true)], args := [d1, d2, d3] }
  | _ => none }
def proofChecksRow : OpenClaim := { program := "ytkijoddconipoaadoor", sum := "c1eafc3d57d989d1826ba1d89d9f016a14da04936eab23e79eb7ea396730cc53", func := "twinspan/twinspanlaw10.ProofChecks", spec := "proofChecks", inPlace := ["internal/bytealg.abigen_runtime_cmpstring", "slices.overlaps[twinspan/api.Entry]", "internal/abi.NoEscape", "internal/bytealg.MakeNoZero"], unfollowed := true, recurses := true, named := ["twinspan/hash.begin", "twinspan/hash.factors"], apart := false, laid := [("twinspan/hash.factors", laid_twinspan_hash_factors), ("twinspan/hash.begin", laid_twinspan_hash_begin)] }
def ProofChecksSaid : Prop := proofChecksRow.holds Tryd.pinned (OpenSpec.ofChange proofChecksSpec)

/-- ITS FALSE NEIGHBOUR: 'it returns false'. Refute it at one input. -/
def proofChecksWrong : ChangeSpec := { name := "proofChecks", fn := fun _ => fun
  | [d1, d2, d3] => { results := [.lit (.bool false)], args := [d1, d2, d3] }
  | _ => none }
def ProofChecksWrongFalsely : Prop := proofChecksRow.holds Tryd.pinned (OpenSpec.ofChange proofChecksWrong)

/-- 'twinspanlaw10.ProofMakes': WHATEVER THE INPUT: true; the input reads as it did. -/
def proofMakesSpec : ChangeSpec := { name := "proofMakes", fn := fun _ => fun
  | [d1, d2] => { results := [.lit (.bool true)], args := [d1, d2] }
  | _ => none }
def proofMakesRow : OpenClaim := { program := "ytkijoddconipoaadoor", sum := "c1eafc3d57d989d1826ba1d89d9f016a14da04936eab23e79eb7ea396730cc53", func := "twinspan/twinspanlaw10.ProofMakes", spec := "proofMakes", inPlace := ["internal/bytealg.abigen_runtime_cmpstring", "slices.overlaps[twinspan/api.Entry]", "internal/abi.NoEscape", "internal/bytealg.MakeNoZero"], unfollowed := true, recurses := true, named := ["twinspan/hash.begin", "twinspan/hash.factors"], apart := false, laid := [("twinspan/hash.factors", laid_twinspan_hash_factors), ("twinspan/hash.begin", laid_twinspan_hash_begin)] }
def ProofMakesSaid : Prop := proofMakesRow.holds Tryd.pinned (OpenSpec.ofChange proofMakesSpec)

/-- ITS FALSE NEIGHBOUR: 'it returns false'. Refute it at one input. -/
def proofMakesWrong : ChangeSpec := { name := "proofMakes", fn := fun _ => fun
  | [d1, d2] => { results := [.lit (.bool false)], args := [d1, d2] }
  | _ => none }
def ProofMakesWrongFalsely : Prop := proofMakesRow.holds Tryd.pinned (OpenSpec.ofChange proofMakesWrong)

/-- 'twinspanlaw10.ProofRight': WHATEVER THE INPUT: true; the input reads as it did. -/
def proofRightSpec : ChangeSpec := { name := "proofRight", fn := fun _ => fun
  | [d1, d2] => { results := [.lit (.bool true)], args := [d1, d2] }
  | _ => none }
def proofRightRow : OpenClaim := { program := "ytkijoddconipoaadoor", sum := "c1eafc3d57d989d1826ba1d89d9f016a14da04936eab23e79eb7ea396730cc53", func := "twinspan/twinspanlaw10.ProofRight", spec := "proofRight", inPlace := ["internal/bytealg.abigen_runtime_cmpstring", "slices.overlaps[twinspan/api.Entry]", "internal/abi.NoEscape", "internal/bytealg.MakeNoZero"], unfollowed := true, recurses := true, named := ["twinspan/hash.begin", "twinspan/hash.factors"], apart := false, laid := [("twinspan/hash.factors", laid_twinspan_hash_factors), ("twinspan/hash.begin", laid_twinspan_hash_begin)] }
def ProofRightSaid : Prop := proofRightRow.holds Tryd.pinned (OpenSpec.ofChange proofRightSpec)

/-- ITS FALSE NEIGHBOUR: 'it returns false'. Refute it at one input. -/
def proofRightWrong : ChangeSpec := { name := "proofRight", fn := fun _ => fun
  | [d1, d2] => { results := [.lit (.bool false)], args := [d1, d2] }
  | _ => none }
def ProofRightWrongFalsely : Prop := proofRightRow.holds Tryd.pinned (OpenSpec.ofChange proofRightWrong)

/-- 'twinspanlaw10.ProofEnds': WHATEVER THE INPUT: true; the input reads as it did. -/
def proofEndsSpec : ChangeSpec := { name := "proofEnds", fn := fun _ => fun
  | [d1, d2] => { results := [.lit (.bool true)], args := [d1, d2] }
  | _ => none }
def proofEndsRow : OpenClaim := { program := "ytkijoddconipoaadoor", sum := "c1eafc3d57d989d1826ba1d89d9f016a14da04936eab23e79eb7ea396730cc53", func := "twinspan/twinspanlaw10.ProofEnds", spec := "proofEnds", inPlace := ["internal/bytealg.abigen_runtime_cmpstring", "slices.overlaps[twinspan/api.Entry]", "internal/abi.NoEscape", "internal/bytealg.MakeNoZero"], unfollowed := true, recurses := true, named := ["twinspan/hash.begin", "twinspan/hash.factors"], apart := false, laid := [("twinspan/hash.factors", laid_twinspan_hash_factors), ("twinspan/hash.begin", laid_twinspan_hash_begin)] }
def ProofEndsSaid : Prop := proofEndsRow.holds Tryd.pinned (OpenSpec.ofChange proofEndsSpec)

/-- ITS FALSE NEIGHBOUR: 'it returns false'. Refute it at one input. -/
def proofEndsWrong : ChangeSpec := { name := "proofEnds", fn := fun _ => fun
  | [d1, d2] => { results := [.lit (.bool false)], args := [d1, d2] }
  | _ => none }
def ProofEndsWrongFalsely : Prop := proofEndsRow.holds Tryd.pinned (OpenSpec.ofChange proofEndsWrong)

/- THE SECOND FORM. 'bulk': how many values and letters a reading holds, each counted each time it is reached (what is shared counts as often as it is met; a slice's spare places count too). A statement '..UptoSaid' is the law's where the arguments, and the package variables that the reading takes, are together of bulk at most 1048576: NARROWER than '..Said'. Prove '..Said' where nothing that the law and all that it calls make is longer than what came in: it says more and counts as full. Else prove '..UptoSaid'. A law counts once. -/
mutual
def uptoBulk {H : Type} : DataW H → Nat
  | .lit (.string bytes) => bytes.length + 1
  | .lit _ => 1
  | .nil => 1
  | .ptr d => uptoBulk d + 1
  | .slice elems spare => uptoBulkAll elems + uptoBulkAll spare + 1
  | .agg parts => uptoBulkAll parts + 1
  | .iface _ d => uptoBulk d + 1
  | .map entries => uptoBulkEntries entries + 1
  | .held _ => 1
def uptoBulkAll {H : Type} : List (DataW H) → Nat
  | [] => 0
  | d :: r => uptoBulk d + uptoBulkAll r
def uptoBulkEntries {H : Type} : List (Lit × DataW H) → Nat
  | [] => 0
  | x :: r => uptoBulkEntry x + uptoBulkEntries r
def uptoBulkEntry {H : Type} : Lit × DataW H → Nat
  | (.string bytes, d) => bytes.length + uptoBulk d + 1
  | (_, d) => uptoBulk d + 1
 end
def uptoSmall : (H : Type) → List (DataW H) → Bool := fun _ ds => decide (uptoBulkAll ds ≤ 1048576)
def OpenSpec.upto (s : _root_.Go.ChangeSpec) : _root_.Go.OpenSpec := { _root_.Go.OpenSpec.ofChange s with cond := some uptoSmall }

/-- 'twinspanlaw09.TreeRoots', WHERE WHAT IT READS IS OF BULK AT MOST 1048576: true; the input reads as it did. -/
def treeRootsUptoRow : OpenClaim := { program := "ytkijoddconipoaadoor", sum := "c1eafc3d57d989d1826ba1d89d9f016a14da04936eab23e79eb7ea396730cc53", func := "twinspan/twinspanlaw09.TreeRoots", spec := "treeRoots", inPlace := ["internal/bytealg.abigen_runtime_cmpstring", "slices.overlaps[twinspan/api.Entry]", "internal/abi.NoEscape", "internal/bytealg.MakeNoZero"], unfollowed := true, recurses := true, named := ["twinspan/hash.begin", "twinspan/hash.factors"], apart := false, laid := [("twinspan/hash.factors", laid_twinspan_hash_factors), ("twinspan/hash.begin", laid_twinspan_hash_begin)], narrowed := true }
def TreeRootsUptoSaid : Prop := treeRootsUptoRow.holds Tryd.pinned (OpenSpec.upto treeRootsSpec)

/-- 'twinspanlaw09.TreeLong', WHERE WHAT IT READS IS OF BULK AT MOST 1048576: true; the input reads as it did. -/
def treeLongUptoRow : OpenClaim := { program := "ytkijoddconipoaadoor", sum := "c1eafc3d57d989d1826ba1d89d9f016a14da04936eab23e79eb7ea396730cc53", func := "twinspan/twinspanlaw09.TreeLong", spec := "treeLong", inPlace := ["internal/bytealg.abigen_runtime_cmpstring", "slices.overlaps[twinspan/api.Entry]", "internal/abi.NoEscape", "internal/bytealg.MakeNoZero"], unfollowed := true, recurses := true, named := ["twinspan/hash.begin", "twinspan/hash.factors"], apart := false, laid := [("twinspan/hash.factors", laid_twinspan_hash_factors), ("twinspan/hash.begin", laid_twinspan_hash_begin)], narrowed := true }
def TreeLongUptoSaid : Prop := treeLongUptoRow.holds Tryd.pinned (OpenSpec.upto treeLongSpec)

/-- 'twinspanlaw09.TreeWays', WHERE WHAT IT READS IS OF BULK AT MOST 1048576: true; the input reads as it did. -/
def treeWaysUptoRow : OpenClaim := { program := "ytkijoddconipoaadoor", sum := "c1eafc3d57d989d1826ba1d89d9f016a14da04936eab23e79eb7ea396730cc53", func := "twinspan/twinspanlaw09.TreeWays", spec := "treeWays", inPlace := ["internal/bytealg.abigen_runtime_cmpstring", "slices.overlaps[twinspan/api.Entry]", "internal/abi.NoEscape", "internal/bytealg.MakeNoZero"], unfollowed := true, recurses := true, named := ["twinspan/hash.begin", "twinspan/hash.factors"], apart := false, laid := [("twinspan/hash.factors", laid_twinspan_hash_factors), ("twinspan/hash.begin", laid_twinspan_hash_begin)], narrowed := true }
def TreeWaysUptoSaid : Prop := treeWaysUptoRow.holds Tryd.pinned (OpenSpec.upto treeWaysSpec)

/-- 'twinspanlaw09.TreeFolds', WHERE WHAT IT READS IS OF BULK AT MOST 1048576: true; the input reads as it did. -/
def treeFoldsUptoRow : OpenClaim := { program := "ytkijoddconipoaadoor", sum := "c1eafc3d57d989d1826ba1d89d9f016a14da04936eab23e79eb7ea396730cc53", func := "twinspan/twinspanlaw09.TreeFolds", spec := "treeFolds", inPlace := ["internal/bytealg.abigen_runtime_cmpstring", "slices.overlaps[twinspan/api.Entry]", "internal/abi.NoEscape", "internal/bytealg.MakeNoZero"], unfollowed := true, recurses := true, named := ["twinspan/hash.begin", "twinspan/hash.factors"], apart := false, laid := [("twinspan/hash.factors", laid_twinspan_hash_factors), ("twinspan/hash.begin", laid_twinspan_hash_begin)], narrowed := true }
def TreeFoldsUptoSaid : Prop := treeFoldsUptoRow.holds Tryd.pinned (OpenSpec.upto treeFoldsSpec)

/-- 'twinspanlaw09.TreeSmall', WHERE WHAT IT READS IS OF BULK AT MOST 1048576: true; the input reads as it did. -/
def treeSmallUptoRow : OpenClaim := { program := "ytkijoddconipoaadoor", sum := "c1eafc3d57d989d1826ba1d89d9f016a14da04936eab23e79eb7ea396730cc53", func := "twinspan/twinspanlaw09.TreeSmall", spec := "treeSmall", inPlace := ["internal/bytealg.abigen_runtime_cmpstring", "slices.overlaps[twinspan/api.Entry]", "internal/abi.NoEscape", "internal/bytealg.MakeNoZero"], unfollowed := true, recurses := true, named := ["twinspan/hash.begin", "twinspan/hash.factors"], apart := false, laid := [("twinspan/hash.factors", laid_twinspan_hash_factors), ("twinspan/hash.begin", laid_twinspan_hash_begin)], narrowed := true }
def TreeSmallUptoSaid : Prop := treeSmallUptoRow.holds Tryd.pinned (OpenSpec.upto treeSmallSpec)

/-- 'twinspanlaw14.ClientFrozen', WHERE WHAT IT READS IS OF BULK AT MOST 1048576: true; the input reads as it did. -/
def clientFrozenUptoRow : OpenClaim := { program := "ytkijoddconipoaadoor", sum := "c1eafc3d57d989d1826ba1d89d9f016a14da04936eab23e79eb7ea396730cc53", func := "twinspan/twinspanlaw14.ClientFrozen", spec := "clientFrozen", inPlace := ["internal/abi.NoEscape", "internal/bytealg.MakeNoZero", "slices.overlaps[twinspan/api.State]"], unfollowed := true, recurses := true, named := ["twinspan/hash.begin", "twinspan/hash.factors"], apart := false, laid := [("twinspan/hash.factors", laid_twinspan_hash_factors), ("twinspan/hash.begin", laid_twinspan_hash_begin)], narrowed := true }
def ClientFrozenUptoSaid : Prop := clientFrozenUptoRow.holds Tryd.pinned (OpenSpec.upto clientFrozenSpec)

/-- 'twinspanlaw14.ClientEither', WHERE WHAT IT READS IS OF BULK AT MOST 1048576: true; the input reads as it did. -/
def clientEitherUptoRow : OpenClaim := { program := "ytkijoddconipoaadoor", sum := "c1eafc3d57d989d1826ba1d89d9f016a14da04936eab23e79eb7ea396730cc53", func := "twinspan/twinspanlaw14.ClientEither", spec := "clientEither", inPlace := ["internal/abi.NoEscape", "internal/bytealg.MakeNoZero", "slices.overlaps[twinspan/api.State]"], unfollowed := true, recurses := true, named := ["twinspan/hash.begin", "twinspan/hash.factors"], apart := false, laid := [("twinspan/hash.factors", laid_twinspan_hash_factors), ("twinspan/hash.begin", laid_twinspan_hash_begin)], narrowed := true }
def ClientEitherUptoSaid : Prop := clientEitherUptoRow.holds Tryd.pinned (OpenSpec.upto clientEitherSpec)

/-- 'twinspanlaw14.ClientPlays', WHERE WHAT IT READS IS OF BULK AT MOST 1048576: true; the input reads as it did. -/
def clientPlaysUptoRow : OpenClaim := { program := "ytkijoddconipoaadoor", sum := "c1eafc3d57d989d1826ba1d89d9f016a14da04936eab23e79eb7ea396730cc53", func := "twinspan/twinspanlaw14.ClientPlays", spec := "clientPlays", inPlace := ["internal/abi.NoEscape", "internal/bytealg.MakeNoZero", "slices.overlaps[twinspan/api.State]"], unfollowed := true, recurses := true, named := ["twinspan/hash.begin", "twinspan/hash.factors"], apart := false, laid := [("twinspan/hash.factors", laid_twinspan_hash_factors), ("twinspan/hash.begin", laid_twinspan_hash_begin)], narrowed := true }
def ClientPlaysUptoSaid : Prop := clientPlaysUptoRow.holds Tryd.pinned (OpenSpec.upto clientPlaysSpec)

/-- 'twinspanlaw14.ClientHonest', WHERE WHAT IT READS IS OF BULK AT MOST 1048576: true; the input reads as it did. -/
def clientHonestUptoRow : OpenClaim := { program := "ytkijoddconipoaadoor", sum := "c1eafc3d57d989d1826ba1d89d9f016a14da04936eab23e79eb7ea396730cc53", func := "twinspan/twinspanlaw14.ClientHonest", spec := "clientHonest", inPlace := ["internal/abi.NoEscape", "internal/bytealg.MakeNoZero", "slices.overlaps[twinspan/api.State]"], unfollowed := true, recurses := true, named := ["twinspan/hash.begin", "twinspan/hash.factors"], apart := false, laid := [("twinspan/hash.factors", laid_twinspan_hash_factors), ("twinspan/hash.begin", laid_twinspan_hash_begin)], narrowed := true }
def ClientHonestUptoSaid : Prop := clientHonestUptoRow.holds Tryd.pinned (OpenSpec.upto clientHonestSpec)

/-- 'twinspanlaw14.ClientFull', WHERE WHAT IT READS IS OF BULK AT MOST 1048576: true; the input reads as it did. -/
def clientFullUptoRow : OpenClaim := { program := "ytkijoddconipoaadoor", sum := "c1eafc3d57d989d1826ba1d89d9f016a14da04936eab23e79eb7ea396730cc53", func := "twinspan/twinspanlaw14.ClientFull", spec := "clientFull", inPlace := ["internal/abi.NoEscape", "internal/bytealg.MakeNoZero", "slices.overlaps[twinspan/api.State]"], unfollowed := true, recurses := true, named := ["twinspan/hash.begin", "twinspan/hash.factors"], apart := false, laid := [("twinspan/hash.factors", laid_twinspan_hash_factors), ("twinspan/hash.begin", laid_twinspan_hash_begin)], narrowed := true }
def ClientFullUptoSaid : Prop := clientFullUptoRow.holds Tryd.pinned (OpenSpec.upto clientFullSpec)

/-- 'twinspanlaw09.TreeLeads', WHERE WHAT IT READS IS OF BULK AT MOST 1048576: true; the input reads as it did. -/
def treeLeadsUptoRow : OpenClaim := { program := "ytkijoddconipoaadoor", sum := "c1eafc3d57d989d1826ba1d89d9f016a14da04936eab23e79eb7ea396730cc53", func := "twinspan/twinspanlaw09.TreeLeads", spec := "treeLeads", inPlace := ["internal/bytealg.abigen_runtime_cmpstring", "slices.overlaps[twinspan/api.Entry]", "internal/abi.NoEscape", "internal/bytealg.MakeNoZero"], unfollowed := true, recurses := true, named := ["twinspan/hash.begin", "twinspan/hash.factors"], apart := false, laid := [("twinspan/hash.factors", laid_twinspan_hash_factors), ("twinspan/hash.begin", laid_twinspan_hash_begin)], narrowed := true }
def TreeLeadsUptoSaid : Prop := treeLeadsUptoRow.holds Tryd.pinned (OpenSpec.upto treeLeadsSpec)

/-- 'twinspanlaw09.TreeSame', WHERE WHAT IT READS IS OF BULK AT MOST 1048576: true; the input reads as it did. -/
def treeSameUptoRow : OpenClaim := { program := "ytkijoddconipoaadoor", sum := "c1eafc3d57d989d1826ba1d89d9f016a14da04936eab23e79eb7ea396730cc53", func := "twinspan/twinspanlaw09.TreeSame", spec := "treeSame", inPlace := ["internal/bytealg.abigen_runtime_cmpstring", "slices.overlaps[twinspan/api.Entry]", "internal/abi.NoEscape", "internal/bytealg.MakeNoZero"], unfollowed := true, recurses := true, named := ["twinspan/hash.begin", "twinspan/hash.factors"], apart := false, laid := [("twinspan/hash.factors", laid_twinspan_hash_factors), ("twinspan/hash.begin", laid_twinspan_hash_begin)], narrowed := true }
def TreeSameUptoSaid : Prop := treeSameUptoRow.holds Tryd.pinned (OpenSpec.upto treeSameSpec)

/-- 'twinspanlaw10.ProofChecks', WHERE WHAT IT READS IS OF BULK AT MOST 1048576: true; the input reads as it did. -/
def proofChecksUptoRow : OpenClaim := { program := "ytkijoddconipoaadoor", sum := "c1eafc3d57d989d1826ba1d89d9f016a14da04936eab23e79eb7ea396730cc53", func := "twinspan/twinspanlaw10.ProofChecks", spec := "proofChecks", inPlace := ["internal/bytealg.abigen_runtime_cmpstring", "slices.overlaps[twinspan/api.Entry]", "internal/abi.NoEscape", "internal/bytealg.MakeNoZero"], unfollowed := true, recurses := true, named := ["twinspan/hash.begin", "twinspan/hash.factors"], apart := false, laid := [("twinspan/hash.factors", laid_twinspan_hash_factors), ("twinspan/hash.begin", laid_twinspan_hash_begin)], narrowed := true }
def ProofChecksUptoSaid : Prop := proofChecksUptoRow.holds Tryd.pinned (OpenSpec.upto proofChecksSpec)

/-- 'twinspanlaw10.ProofMakes', WHERE WHAT IT READS IS OF BULK AT MOST 1048576: true; the input reads as it did. -/
def proofMakesUptoRow : OpenClaim := { program := "ytkijoddconipoaadoor", sum := "c1eafc3d57d989d1826ba1d89d9f016a14da04936eab23e79eb7ea396730cc53", func := "twinspan/twinspanlaw10.ProofMakes", spec := "proofMakes", inPlace := ["internal/bytealg.abigen_runtime_cmpstring", "slices.overlaps[twinspan/api.Entry]", "internal/abi.NoEscape", "internal/bytealg.MakeNoZero"], unfollowed := true, recurses := true, named := ["twinspan/hash.begin", "twinspan/hash.factors"], apart := false, laid := [("twinspan/hash.factors", laid_twinspan_hash_factors), ("twinspan/hash.begin", laid_twinspan_hash_begin)], narrowed := true }
def ProofMakesUptoSaid : Prop := proofMakesUptoRow.holds Tryd.pinned (OpenSpec.upto proofMakesSpec)

/-- 'twinspanlaw10.ProofRight', WHERE WHAT IT READS IS OF BULK AT MOST 1048576: true; the input reads as it did. -/
def proofRightUptoRow : OpenClaim := { program := "ytkijoddconipoaadoor", sum := "c1eafc3d57d989d1826ba1d89d9f016a14da04936eab23e79eb7ea396730cc53", func := "twinspan/twinspanlaw10.ProofRight", spec := "proofRight", inPlace := ["internal/bytealg.abigen_runtime_cmpstring", "slices.overlaps[twinspan/api.Entry]", "internal/abi.NoEscape", "internal/bytealg.MakeNoZero"], unfollowed := true, recurses := true, named := ["twinspan/hash.begin", "twinspan/hash.factors"], apart := false, laid := [("twinspan/hash.factors", laid_twinspan_hash_factors), ("twinspan/hash.begin", laid_twinspan_hash_begin)], narrowed := true }
def ProofRightUptoSaid : Prop := proofRightUptoRow.holds Tryd.pinned (OpenSpec.upto proofRightSpec)

/-- 'twinspanlaw10.ProofEnds', WHERE WHAT IT READS IS OF BULK AT MOST 1048576: true; the input reads as it did. -/
def proofEndsUptoRow : OpenClaim := { program := "ytkijoddconipoaadoor", sum := "c1eafc3d57d989d1826ba1d89d9f016a14da04936eab23e79eb7ea396730cc53", func := "twinspan/twinspanlaw10.ProofEnds", spec := "proofEnds", inPlace := ["internal/bytealg.abigen_runtime_cmpstring", "slices.overlaps[twinspan/api.Entry]", "internal/abi.NoEscape", "internal/bytealg.MakeNoZero"], unfollowed := true, recurses := true, named := ["twinspan/hash.begin", "twinspan/hash.factors"], apart := false, laid := [("twinspan/hash.factors", laid_twinspan_hash_factors), ("twinspan/hash.begin", laid_twinspan_hash_begin)], narrowed := true }
def ProofEndsUptoSaid : Prop := proofEndsUptoRow.holds Tryd.pinned (OpenSpec.upto proofEndsSpec)

end Rows
end Go.Proofs.YtkijoddconipoaaDoor
