/-
  NARROWER THAN 'FOR EVERY INPUT', by the rows' own cells (each row's printed sentence says how): SpanSends: laid · SpanFunds: laid · SpanPending: laid · SpanReplies: laid · SpanSame: laid · SpanMakes: laid.
  DERIVED. THE GIVEN ROWS OF THIS SEAT. 6 by the template 'for every input the law returns true; each argument reads behind the call as it read before'; 0 by the template 'total and deterministic' (their statements: YtcdbijbhifhkeaaGreatDoorTotals.lean).
  GIVEN WITH THE SEED: the statements are not yours to turn. If you find one false, say at which input.
  Laid BY PROGRAM, IN A SANDBOX (cutbox-rows.mjs): the forced cells as the released guide's own fill.sh prints them over the translation 0a9c1794eb5c6442… (all of the seat's roots in one cut). By AI agents, Wed Nov 11 2026. No macro, syntax, notation, axiom, sorry.
-/
import Derived.Test.YtcdbijbhifhkeaaGreatDoorChecked
import GoSem.PinnedTables
import GoSem.Claim
import GoSem.ClaimJoined
import GoSem.ClaimMapViews
import Derived.JoinedTies
import Derived.KernelRfl
namespace Go.Proofs.YtcdbijbhifhkeaaGreatDoor
/- THE CELL 'sum', in the pinned program and in every row, IS THE sha256 OF THE DUMP (.gsa) THAT YtcdbijbhifhkeaaGreatDoorProg.lean LOADS. Nothing in Lean hashes anything: it is a label: what it is worth is what the hold of that sum in a sandbox is worth. -/
noncomputable def Tryz.pinned : Pinned := { name := "ytcdbijbhifhkeaagreatdoor", sum := "0a9c1794eb5c64428a6bb17d0908c021bf9599df8ed1ecd378f5300afa5883dc", checked := Tryz.checked }
namespace Rows
def none {H : Type} : Left H := { results := [], args := [] }

/- WHAT THE LISTED PACKAGE-LEVEL VARIABLES READ AS WHEN THE CALL BEGINS. Each datum BY PROGRAM (the guide's laid-datum.mjs) off the statement by which the dump's own 'gosem.cut.vars' lays the variable. In a bare row this is a premise. The card (YtcdbijbhifhkeaaGreatDoorCards.lean) ties it to the program's text. -/
def laid_unicode_utf8_acceptRanges {H : Type} : DataW H := .agg [.agg [.lit (.int .u8 128), .lit (.int .u8 191)], .agg [.lit (.int .u8 160), .lit (.int .u8 191)], .agg [.lit (.int .u8 128), .lit (.int .u8 159)], .agg [.lit (.int .u8 144), .lit (.int .u8 191)], .agg [.lit (.int .u8 128), .lit (.int .u8 143)], .agg [.lit (.int .u8 0), .lit (.int .u8 0)], .agg [.lit (.int .u8 0), .lit (.int .u8 0)], .agg [.lit (.int .u8 0), .lit (.int .u8 0)], .agg [.lit (.int .u8 0), .lit (.int .u8 0)], .agg [.lit (.int .u8 0), .lit (.int .u8 0)], .agg [.lit (.int .u8 0), .lit (.int .u8 0)], .agg [.lit (.int .u8 0), .lit (.int .u8 0)], .agg [.lit (.int .u8 0), .lit (.int .u8 0)], .agg [.lit (.int .u8 0), .lit (.int .u8 0)], .agg [.lit (.int .u8 0), .lit (.int .u8 0)], .agg [.lit (.int .u8 0), .lit (.int .u8 0)]]
def laid_twinspan_hash_factors {H : Type} : DataW H := .agg [.lit (.int .u32 1116352408), .lit (.int .u32 1899447441), .lit (.int .u32 3049323471), .lit (.int .u32 3921009573), .lit (.int .u32 961987163), .lit (.int .u32 1508970993), .lit (.int .u32 2453635748), .lit (.int .u32 2870763221), .lit (.int .u32 3624381080), .lit (.int .u32 310598401), .lit (.int .u32 607225278), .lit (.int .u32 1426881987), .lit (.int .u32 1925078388), .lit (.int .u32 2162078206), .lit (.int .u32 2614888103), .lit (.int .u32 3248222580), .lit (.int .u32 3835390401), .lit (.int .u32 4022224774), .lit (.int .u32 264347078), .lit (.int .u32 604807628), .lit (.int .u32 770255983), .lit (.int .u32 1249150122), .lit (.int .u32 1555081692), .lit (.int .u32 1996064986), .lit (.int .u32 2554220882), .lit (.int .u32 2821834349), .lit (.int .u32 2952996808), .lit (.int .u32 3210313671), .lit (.int .u32 3336571891), .lit (.int .u32 3584528711), .lit (.int .u32 113926993), .lit (.int .u32 338241895), .lit (.int .u32 666307205), .lit (.int .u32 773529912), .lit (.int .u32 1294757372), .lit (.int .u32 1396182291), .lit (.int .u32 1695183700), .lit (.int .u32 1986661051), .lit (.int .u32 2177026350), .lit (.int .u32 2456956037), .lit (.int .u32 2730485921), .lit (.int .u32 2820302411), .lit (.int .u32 3259730800), .lit (.int .u32 3345764771), .lit (.int .u32 3516065817), .lit (.int .u32 3600352804), .lit (.int .u32 4094571909), .lit (.int .u32 275423344), .lit (.int .u32 430227734), .lit (.int .u32 506948616), .lit (.int .u32 659060556), .lit (.int .u32 883997877), .lit (.int .u32 958139571), .lit (.int .u32 1322822218), .lit (.int .u32 1537002063), .lit (.int .u32 1747873779), .lit (.int .u32 1955562222), .lit (.int .u32 2024104815), .lit (.int .u32 2227730452), .lit (.int .u32 2361852424), .lit (.int .u32 2428436474), .lit (.int .u32 2756734187), .lit (.int .u32 3204031479), .lit (.int .u32 3329325298)]
def laid_twinspan_hash_begin {H : Type} : DataW H := .agg [.lit (.int .u32 1779033703), .lit (.int .u32 3144134277), .lit (.int .u32 1013904242), .lit (.int .u32 2773480762), .lit (.int .u32 1359893119), .lit (.int .u32 2600822924), .lit (.int .u32 528734635), .lit (.int .u32 1541459225)]
/-- One of Go's own tables, pinned by name: the form's constant. -/
def laid_unicode_utf8_first : DataW Unit := Go.Pinned.utf8First

/-- 'twinspanlaw22.SpanSends': WHATEVER THE INPUT: true; the input reads as it did. -/
def spanSendsSpec : ChangeSpec := { name := "spanSends", fn := fun _ => fun
  | [d1, d2] => { results := [.lit (.bool true)], args := [d1, d2] }
  | _ => none }
def spanSendsRow : OpenClaim := { program := "ytcdbijbhifhkeaagreatdoor", sum := "0a9c1794eb5c64428a6bb17d0908c021bf9599df8ed1ecd378f5300afa5883dc", func := "twinspan/twinspanlaw22.SpanSends", spec := "spanSends", inPlace := ["internal/bytealg.abigen_runtime_cmpstring", "math/bits.Add64", "slices.overlaps[twinspan/api.Entry]", "internal/abi.NoEscape", "internal/bytealg.IndexByteString", "internal/bytealg.IndexString", "internal/bytealg.CountString", "math/bits.Sub64", "internal/bytealg.MakeNoZero", "slices.overlaps[twinspan/api.State]"], unfollowed := true, recurses := true, named := ["unicode/utf8.first", "unicode/utf8.acceptRanges", "internal/bytealg.MaxLen", "twinspan/hash.begin", "twinspan/hash.factors"], plainKeys := false, apart := false, laid := [("unicode/utf8.acceptRanges", laid_unicode_utf8_acceptRanges), ("twinspan/hash.factors", laid_twinspan_hash_factors), ("twinspan/hash.begin", laid_twinspan_hash_begin), ("unicode/utf8.first", laid_unicode_utf8_first)] }
def SpanSendsSaid : Prop := spanSendsRow.holds Tryz.pinned (OpenSpec.ofChange spanSendsSpec)

/-- ITS FALSE NEIGHBOUR: 'it returns false'. Refute it at one input. -/
def spanSendsWrong : ChangeSpec := { name := "spanSends", fn := fun _ => fun
  | [d1, d2] => { results := [.lit (.bool false)], args := [d1, d2] }
  | _ => none }
def SpanSendsWrongFalsely : Prop := spanSendsRow.holds Tryz.pinned (OpenSpec.ofChange spanSendsWrong)

/-- 'twinspanlaw22.SpanFunds': WHATEVER THE INPUT: true; the input reads as it did. -/
def spanFundsSpec : ChangeSpec := { name := "spanFunds", fn := fun _ => fun
  | [d] => { results := [.lit (.bool true)], args := [d] }
  | _ => none }
def spanFundsRow : OpenClaim := { program := "ytcdbijbhifhkeaagreatdoor", sum := "0a9c1794eb5c64428a6bb17d0908c021bf9599df8ed1ecd378f5300afa5883dc", func := "twinspan/twinspanlaw22.SpanFunds", spec := "spanFunds", inPlace := ["internal/bytealg.abigen_runtime_cmpstring", "math/bits.Add64", "slices.overlaps[twinspan/api.Entry]", "internal/abi.NoEscape", "internal/bytealg.IndexByteString", "internal/bytealg.IndexString", "internal/bytealg.CountString", "math/bits.Sub64", "internal/bytealg.MakeNoZero", "slices.overlaps[twinspan/api.State]"], unfollowed := true, recurses := true, named := ["unicode/utf8.first", "unicode/utf8.acceptRanges", "internal/bytealg.MaxLen", "twinspan/hash.begin", "twinspan/hash.factors"], plainKeys := false, apart := false, laid := [("unicode/utf8.acceptRanges", laid_unicode_utf8_acceptRanges), ("twinspan/hash.factors", laid_twinspan_hash_factors), ("twinspan/hash.begin", laid_twinspan_hash_begin), ("unicode/utf8.first", laid_unicode_utf8_first)] }
def SpanFundsSaid : Prop := spanFundsRow.holds Tryz.pinned (OpenSpec.ofChange spanFundsSpec)

/-- ITS FALSE NEIGHBOUR: 'it returns false'. Refute it at one input. -/
def spanFundsWrong : ChangeSpec := { name := "spanFunds", fn := fun _ => fun
  | [d] => { results := [.lit (.bool false)], args := [d] }
  | _ => none }
def SpanFundsWrongFalsely : Prop := spanFundsRow.holds Tryz.pinned (OpenSpec.ofChange spanFundsWrong)

/-- 'twinspanlaw22.SpanPending': WHATEVER THE INPUT: true; the input reads as it did. -/
def spanPendingSpec : ChangeSpec := { name := "spanPending", fn := fun _ => fun
  | [d] => { results := [.lit (.bool true)], args := [d] }
  | _ => none }
def spanPendingRow : OpenClaim := { program := "ytcdbijbhifhkeaagreatdoor", sum := "0a9c1794eb5c64428a6bb17d0908c021bf9599df8ed1ecd378f5300afa5883dc", func := "twinspan/twinspanlaw22.SpanPending", spec := "spanPending", inPlace := ["internal/bytealg.abigen_runtime_cmpstring", "math/bits.Add64", "slices.overlaps[twinspan/api.Entry]", "internal/abi.NoEscape", "internal/bytealg.IndexByteString", "internal/bytealg.IndexString", "internal/bytealg.CountString", "math/bits.Sub64", "internal/bytealg.MakeNoZero", "slices.overlaps[twinspan/api.State]"], unfollowed := true, recurses := true, named := ["unicode/utf8.first", "unicode/utf8.acceptRanges", "internal/bytealg.MaxLen", "twinspan/hash.begin", "twinspan/hash.factors"], plainKeys := false, apart := false, laid := [("unicode/utf8.acceptRanges", laid_unicode_utf8_acceptRanges), ("twinspan/hash.factors", laid_twinspan_hash_factors), ("twinspan/hash.begin", laid_twinspan_hash_begin), ("unicode/utf8.first", laid_unicode_utf8_first)] }
def SpanPendingSaid : Prop := spanPendingRow.holds Tryz.pinned (OpenSpec.ofChange spanPendingSpec)

/-- ITS FALSE NEIGHBOUR: 'it returns false'. Refute it at one input. -/
def spanPendingWrong : ChangeSpec := { name := "spanPending", fn := fun _ => fun
  | [d] => { results := [.lit (.bool false)], args := [d] }
  | _ => none }
def SpanPendingWrongFalsely : Prop := spanPendingRow.holds Tryz.pinned (OpenSpec.ofChange spanPendingWrong)

/-- 'twinspanlaw22.SpanReplies': WHATEVER THE INPUT: true; the input reads as it did. -/
def spanRepliesSpec : ChangeSpec := { name := "spanReplies", fn := fun _ => fun
  | [d] => { results := [.lit (.bool true)], args := [d] }
  | _ => none }
def spanRepliesRow : OpenClaim := { program := "ytcdbijbhifhkeaagreatdoor", sum := "0a9c1794eb5c64428a6bb17d0908c021bf9599df8ed1ecd378f5300afa5883dc", func := "twinspan/twinspanlaw22.SpanReplies", spec := "spanReplies", inPlace := ["internal/bytealg.abigen_runtime_cmpstring", "math/bits.Add64", "slices.overlaps[twinspan/api.Entry]", "internal/abi.NoEscape", "internal/bytealg.IndexByteString", "internal/bytealg.IndexString", "internal/bytealg.CountString", "math/bits.Sub64", "internal/bytealg.MakeNoZero", "slices.overlaps[twinspan/api.State]"], unfollowed := true, recurses := true, named := ["unicode/utf8.first", "unicode/utf8.acceptRanges", "internal/bytealg.MaxLen", "twinspan/hash.begin", "twinspan/hash.factors"], plainKeys := false, apart := false, laid := [("unicode/utf8.acceptRanges", laid_unicode_utf8_acceptRanges), ("twinspan/hash.factors", laid_twinspan_hash_factors), ("twinspan/hash.begin", laid_twinspan_hash_begin), ("unicode/utf8.first", laid_unicode_utf8_first)] }
def SpanRepliesSaid : Prop := spanRepliesRow.holds Tryz.pinned (OpenSpec.ofChange spanRepliesSpec)

/-- ITS FALSE NEIGHBOUR: 'it returns false'. Refute it at one input. -/
def spanRepliesWrong : ChangeSpec := { name := "spanReplies", fn := fun _ => fun
  | [d] => { results := [.lit (.bool false)], args := [d] }
  | _ => none }
def SpanRepliesWrongFalsely : Prop := spanRepliesRow.holds Tryz.pinned (OpenSpec.ofChange spanRepliesWrong)

/-- 'twinspanlaw22.SpanSame': WHATEVER THE INPUT: true; the input reads as it did. -/
def spanSameSpec : ChangeSpec := { name := "spanSame", fn := fun _ => fun
  | [d] => { results := [.lit (.bool true)], args := [d] }
  | _ => none }
def spanSameRow : OpenClaim := { program := "ytcdbijbhifhkeaagreatdoor", sum := "0a9c1794eb5c64428a6bb17d0908c021bf9599df8ed1ecd378f5300afa5883dc", func := "twinspan/twinspanlaw22.SpanSame", spec := "spanSame", inPlace := ["internal/bytealg.abigen_runtime_cmpstring", "math/bits.Add64", "slices.overlaps[twinspan/api.Entry]", "internal/abi.NoEscape", "internal/bytealg.IndexByteString", "internal/bytealg.IndexString", "internal/bytealg.CountString", "math/bits.Sub64", "internal/bytealg.MakeNoZero", "slices.overlaps[twinspan/api.State]"], unfollowed := true, recurses := true, named := ["unicode/utf8.first", "unicode/utf8.acceptRanges", "internal/bytealg.MaxLen", "twinspan/hash.begin", "twinspan/hash.factors"], plainKeys := false, apart := false, laid := [("unicode/utf8.acceptRanges", laid_unicode_utf8_acceptRanges), ("twinspan/hash.factors", laid_twinspan_hash_factors), ("twinspan/hash.begin", laid_twinspan_hash_begin), ("unicode/utf8.first", laid_unicode_utf8_first)] }
def SpanSameSaid : Prop := spanSameRow.holds Tryz.pinned (OpenSpec.ofChange spanSameSpec)

/-- ITS FALSE NEIGHBOUR: 'it returns false'. Refute it at one input. -/
def spanSameWrong : ChangeSpec := { name := "spanSame", fn := fun _ => fun
  | [d] => { results := [.lit (.bool false)], args := [d] }
  | _ => none }
def SpanSameWrongFalsely : Prop := spanSameRow.holds Tryz.pinned (OpenSpec.ofChange spanSameWrong)

/-- 'twinspanlaw22.SpanMakes': WHATEVER THE INPUT: true; the input reads as it did. -/
def spanMakesSpec : ChangeSpec := { name := "spanMakes", fn := fun _ => fun
  | [d] => { results := [.lit (.bool true)], args := [d] }
  | _ => none }
def spanMakesRow : OpenClaim := { program := "ytcdbijbhifhkeaagreatdoor", sum := "0a9c1794eb5c64428a6bb17d0908c021bf9599df8ed1ecd378f5300afa5883dc", func := "twinspan/twinspanlaw22.SpanMakes", spec := "spanMakes", inPlace := ["internal/bytealg.abigen_runtime_cmpstring", "math/bits.Add64", "slices.overlaps[twinspan/api.Entry]", "internal/abi.NoEscape", "internal/bytealg.IndexByteString", "internal/bytealg.IndexString", "internal/bytealg.CountString", "math/bits.Sub64", "internal/bytealg.MakeNoZero", "slices.overlaps[twinspan/api.State]"], unfollowed := true, recurses := true, named := ["unicode/utf8.first", "unicode/utf8.acceptRanges", "internal/bytealg.MaxLen", "twinspan/hash.begin", "twinspan/hash.factors"], plainKeys := false, apart := false, laid := [("unicode/utf8.acceptRanges", laid_unicode_utf8_acceptRanges), ("twinspan/hash.factors", laid_twinspan_hash_factors), ("twinspan/hash.begin", laid_twinspan_hash_begin), ("unicode/utf8.first", laid_unicode_utf8_first)] }
def SpanMakesSaid : Prop := spanMakesRow.holds Tryz.pinned (OpenSpec.ofChange spanMakesSpec)

/-- ITS FALSE NEIGHBOUR: 'it returns false'. Refute it at one input. -/
def spanMakesWrong : ChangeSpec := { name := "spanMakes", fn := fun _ => fun
  | [d] => { results := [.lit (.bool false)], args := [d] }
  | _ => none }
def SpanMakesWrongFalsely : Prop := spanMakesRow.holds Tryz.pinned (OpenSpec.ofChange spanMakesWrong)

/- THE SECOND FORM. 'bulk': how many values and letters a reading holds, each counted each time it is reached (what is shared counts as often as it is met; a slice's spare places count too). A statement '..UptoSaid' is the law's where the arguments, and the package variables that the reading takes, are together of bulk at most 1048576: NARROWER than '..Said'. Prove '..Said' where nothing that the law and all that it calls make is longer than what came in: it says more and counts as full. Else prove '..UptoSaid'. A law counts once. -/
mutual
def uptoBulk {H : Type} : DataW H → Nat
  | .lit (.string bytes) => bytes.length + 1
  | .lit _ => 1
  | .nil => 1
  | .ptr d => uptoBulk d + 1
  | .slice elems spare => uptoBulkAll elems + uptoBulkAll spare + 1
  | .agg parts => uptoBulkAll parts + 1
  | .iface _ d => uptoBulk d + 1
  | .map entries => uptoBulkEntries entries + 1
  | .held _ => 1
def uptoBulkAll {H : Type} : List (DataW H) → Nat
  | [] => 0
  | d :: r => uptoBulk d + uptoBulkAll r
def uptoBulkEntries {H : Type} : List (Lit × DataW H) → Nat
  | [] => 0
  | x :: r => uptoBulkEntry x + uptoBulkEntries r
def uptoBulkEntry {H : Type} : Lit × DataW H → Nat
  | (.string bytes, d) => bytes.length + uptoBulk d + 1
  | (_, d) => uptoBulk d + 1
 end
def uptoSmall : (H : Type) → List (DataW H) → Bool := fun _ ds => decide (uptoBulkAll ds ≤ 1048576)
def OpenSpec.upto (s : _root_.Go.ChangeSpec) : _root_.Go.OpenSpec := { _root_.Go.OpenSpec.ofChange s with cond := some uptoSmall }

/-- 'twinspanlaw22.SpanSends', WHERE WHAT IT READS IS OF BULK AT MOST 1048576: true; the input reads as it did. -/
def spanSendsUptoRow : OpenClaim := { program := "ytcdbijbhifhkeaagreatdoor", sum := "0a9c1794eb5c64428a6bb17d0908c021bf9599df8ed1ecd378f5300afa5883dc", func := "twinspan/twinspanlaw22.SpanSends", spec := "spanSends", inPlace := ["internal/bytealg.abigen_runtime_cmpstring", "math/bits.Add64", "slices.overlaps[twinspan/api.Entry]", "internal/abi.NoEscape", "internal/bytealg.IndexByteString", "internal/bytealg.IndexString", "internal/bytealg.CountString", "math/bits.Sub64", "internal/bytealg.MakeNoZero", "slices.overlaps[twinspan/api.State]"], unfollowed := true, recurses := true, named := ["unicode/utf8.first", "unicode/utf8.acceptRanges", "internal/bytealg.MaxLen", "twinspan/hash.begin", "twinspan/hash.factors"], plainKeys := false, apart := false, laid := [("unicode/utf8.acceptRanges", laid_unicode_utf8_acceptRanges), ("twinspan/hash.factors", laid_twinspan_hash_factors), ("twinspan/hash.begin", laid_twinspan_hash_begin), ("unicode/utf8.first", laid_unicode_utf8_first)], narrowed := true }
def SpanSendsUptoSaid : Prop := spanSendsUptoRow.holds Tryz.pinned (OpenSpec.upto spanSendsSpec)

/-- 'twinspanlaw22.SpanFunds', WHERE WHAT IT READS IS OF BULK AT MOST 1048576: true; the input reads as it did. -/
def spanFundsUptoRow : OpenClaim := { program := "ytcdbijbhifhkeaagreatdoor", sum := "0a9c1794eb5c64428a6bb17d0908c021bf9599df8ed1ecd378f5300afa5883dc", func := "twinspan/twinspanlaw22.SpanFunds", spec := "spanFunds", inPlace := ["internal/bytealg.abigen_runtime_cmpstring", "math/bits.Add64", "slices.overlaps[twinspan/api.Entry]", "internal/abi.NoEscape", "internal/bytealg.IndexByteString", "internal/bytealg.IndexString", "internal/bytealg.CountString", "math/bits.Sub64", "internal/bytealg.MakeNoZero", "slices.overlaps[twinspan/api.State]"], unfollowed := true, recurses := true, named := ["unicode/utf8.first", "unicode/utf8.acceptRanges", "internal/bytealg.MaxLen", "twinspan/hash.begin", "twinspan/hash.factors"], plainKeys := false, apart := false, laid := [("unicode/utf8.acceptRanges", laid_unicode_utf8_acceptRanges), ("twinspan/hash.factors", laid_twinspan_hash_factors), ("twinspan/hash.begin", laid_twinspan_hash_begin), ("unicode/utf8.first", laid_unicode_utf8_first)], narrowed := true }
def SpanFundsUptoSaid : Prop := spanFundsUptoRow.holds Tryz.pinned (OpenSpec.upto spanFundsSpec)

/-- 'twinspanlaw22.SpanPending', WHERE WHAT IT READS IS OF BULK AT MOST 1048576: true; the input reads as it did. -/
def spanPendingUptoRow : OpenClaim := { program := "ytcdbijbhifhkeaagreatdoor", sum := "0a9c1794eb5c64428a6bb17d0908c021bf9599df8ed1ecd378f5300afa5883dc", func := "twinspan/twinspanlaw22.SpanPending", spec := "spanPending", inPlace := ["internal/bytealg.abigen_runtime_cmpstring", "math/bits.Add64", "slices.overlaps[twinspan/api.Entry]", "internal/abi.NoEscape", "internal/bytealg.IndexByteString", "internal/bytealg.IndexString", "internal/bytealg.CountString", "math/bits.Sub64", "internal/bytealg.MakeNoZero", "slices.overlaps[twinspan/api.State]"], unfollowed := true, recurses := true, named := ["unicode/utf8.first", "unicode/utf8.acceptRanges", "internal/bytealg.MaxLen", "twinspan/hash.begin", "twinspan/hash.factors"], plainKeys := false, apart := false, laid := [("unicode/utf8.acceptRanges", laid_unicode_utf8_acceptRanges), ("twinspan/hash.factors", laid_twinspan_hash_factors), ("twinspan/hash.begin", laid_twinspan_hash_begin), ("unicode/utf8.first", laid_unicode_utf8_first)], narrowed := true }
def SpanPendingUptoSaid : Prop := spanPendingUptoRow.holds Tryz.pinned (OpenSpec.upto spanPendingSpec)

/-- 'twinspanlaw22.SpanReplies', WHERE WHAT IT READS IS OF BULK AT MOST 1048576: true; the input reads as it did. -/
def spanRepliesUptoRow : OpenClaim := { program := "ytcdbijbhifhkeaagreatdoor", sum := "0a9c1794eb5c64428a6bb17d0908c021bf9599df8ed1ecd378f5300afa5883dc", func := "twinspan/twinspanlaw22.SpanReplies", spec := "spanReplies", inPlace := ["internal/bytealg.abigen_runtime_cmpstring", "math/bits.Add64", "slices.overlaps[twinspan/api.Entry]", "internal/abi.NoEscape", "internal/bytealg.IndexByteString", "internal/bytealg.IndexString", "internal/bytealg.CountString", "math/bits.Sub64", "internal/bytealg.MakeNoZero", "slices.overlaps[twinspan/api.State]"], unfollowed := true, recurses := true, named := ["unicode/utf8.first", "unicode/utf8.acceptRanges", "internal/bytealg.MaxLen", "twinspan/hash.begin", "twinspan/hash.factors"], plainKeys := false, apart := false, laid := [("unicode/utf8.acceptRanges", laid_unicode_utf8_acceptRanges), ("twinspan/hash.factors", laid_twinspan_hash_factors), ("twinspan/hash.begin", laid_twinspan_hash_begin), ("unicode/utf8.first", laid_unicode_utf8_first)], narrowed := true }
def SpanRepliesUptoSaid : Prop := spanRepliesUptoRow.holds Tryz.pinned (OpenSpec.upto spanRepliesSpec)

/-- 'twinspanlaw22.SpanSame', WHERE WHAT IT READS IS OF BULK AT MOST 1048576: true; the input reads as it did. -/
def spanSameUptoRow : OpenClaim := { program := "ytcdbijbhifhkeaagreatdoor", sum := "0a9c1794eb5c64428a6bb17d0908c021bf9599df8ed1ecd378f5300afa5883dc", func := "twinspan/twinspanlaw22.SpanSame", spec := "spanSame", inPlace := ["internal/bytealg.abigen_runtime_cmpstring", "math/bits.Add64", "slices.overlaps[twinspan/api.Entry]", "internal/abi.NoEscape", "internal/bytealg.IndexByteString", "internal/bytealg.IndexString", "internal/bytealg.CountString", "math/bits.Sub64", "internal/bytealg.MakeNoZero", "slices.overlaps[twinspan/api.State]"], unfollowed := true, recurses := true, named := ["unicode/utf8.first", "unicode/utf8.acceptRanges", "internal/bytealg.MaxLen", "twinspan/hash.begin", "twinspan/hash.factors"], plainKeys := false, apart := false, laid := [("unicode/utf8.acceptRanges", laid_unicode_utf8_acceptRanges), ("twinspan/hash.factors", laid_twinspan_hash_factors), ("twinspan/hash.begin", laid_twinspan_hash_begin), ("unicode/utf8.first", laid_unicode_utf8_first)], narrowed := true }
def SpanSameUptoSaid : Prop := spanSameUptoRow.holds Tryz.pinned (OpenSpec.upto spanSameSpec)

/-- 'twinspanlaw22.SpanMakes', WHERE WHAT IT READS IS OF BULK AT MOST 1048576: true; the input reads as it did. -/
def spanMakesUptoRow : OpenClaim := { program := "ytcdbijbhifhkeaagreatdoor", sum := "0a9c1794eb5c64428a6bb17d0908c021bf9599df8ed1ecd378f5300afa5883dc", func := "twinspan/twinspanlaw22.SpanMakes", spec := "spanMakes", inPlace := ["internal/bytealg.abigen_runtime_cmpstring", "math/bits.Add64", "slices.overlaps[twinspan/api.Entry]", "internal/abi.NoEscape", "internal/bytealg.IndexByteString", "internal/bytealg.IndexString", "internal/bytealg.CountString", "math/bits.Sub64", "internal/bytealg.MakeNoZero", "slices.overlaps[twinspan/api.State]"], unfollowed := true, recurses := true, named := ["unicode/utf8.first", "unicode/utf8.acceptRanges", "internal/bytealg.MaxLen", "twinspan/hash.begin", "twinspan/hash.factors"], plainKeys := false, apart := false, laid := [("unicode/utf8.acceptRanges", laid_unicode_utf8_acceptRanges), ("twinspan/hash.factors", laid_twinspan_hash_factors), ("twinspan/hash.begin", laid_twinspan_hash_begin), ("unicode/utf8.first", laid_unicode_utf8_first)], narrowed := true }
def SpanMakesUptoSaid : Prop := spanMakesUptoRow.holds Tryz.pinned (OpenSpec.upto spanMakesSpec)

end Rows
end Go.Proofs.YtcdbijbhifhkeaaGreatDoor
