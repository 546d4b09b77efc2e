/-
  NARROWER THAN 'FOR EVERY INPUT', by the rows' own cells (each row's printed sentence says how): ReqlineParses: laid · ReqlineTexts: laid · ReqlineKinds: laid · ReqlineSpaces: laid · ReqlineVersions: laid · CredParses: laid · CredInverse: laid · CredVerifies: laid.
  DERIVED. THE GIVEN ROWS OF THIS SEAT. 8 by the template 'for every input the law returns true; each argument reads behind the call as it read before'; 0 by the template 'total and deterministic' (their statements: YtiolgglipcijpaaDoorTotals.lean).
  GIVEN WITH THE SEED: the statements are not yours to turn. If you find one false, say at which input.
  Laid BY PROGRAM, IN A SANDBOX (cutbox-rows.mjs): the forced cells as the released guide's own fill.sh prints them over the translation c50af6dbd15fa19f… (all of the seat's roots in one cut). By AI agents, Wed Nov 11 2026. No macro, syntax, notation, axiom, sorry.
-/
import Derived.Test.YtiolgglipcijpaaDoorChecked
import GoSem.PinnedTables
import GoSem.Claim
import GoSem.ClaimJoined
import GoSem.ClaimMapViews
import Derived.JoinedTies
import Derived.KernelRfl
namespace Go.Proofs.YtiolgglipcijpaaDoor
/- THE CELL 'sum', in the pinned program and in every row, IS THE sha256 OF THE DUMP (.gsa) THAT YtiolgglipcijpaaDoorProg.lean LOADS. Nothing in Lean hashes anything: it is a label: what it is worth is what the hold of that sum in a sandbox is worth. -/
noncomputable def Tryd.pinned : Pinned := { name := "ytiolgglipcijpaadoor", sum := "c50af6dbd15fa19ffe8fe6d28fe0dbc263f75c99cf6dd70e5fdd5af248ad3046", checked := Tryd.checked }
namespace Rows
def none {H : Type} : Left H := { results := [], args := [] }

/- WHAT THE LISTED PACKAGE-LEVEL VARIABLES READ AS WHEN THE CALL BEGINS. Each datum BY PROGRAM (the guide's laid-datum.mjs) off the statement by which the dump's own 'gosem.cut.vars' lays the variable. In a bare row this is a premise. The card (YtiolgglipcijpaaDoorCards.lean) ties it to the program's text. -/
def laid_unicode_utf8_acceptRanges {H : Type} : DataW H := .agg [.agg [.lit (.int .u8 128), .lit (.int .u8 191)], .agg [.lit (.int .u8 160), .lit (.int .u8 191)], .agg [.lit (.int .u8 128), .lit (.int .u8 159)], .agg [.lit (.int .u8 144), .lit (.int .u8 191)], .agg [.lit (.int .u8 128), .lit (.int .u8 143)], .agg [.lit (.int .u8 0), .lit (.int .u8 0)], .agg [.lit (.int .u8 0), .lit (.int .u8 0)], .agg [.lit (.int .u8 0), .lit (.int .u8 0)], .agg [.lit (.int .u8 0), .lit (.int .u8 0)], .agg [.lit (.int .u8 0), .lit (.int .u8 0)], .agg [.lit (.int .u8 0), .lit (.int .u8 0)], .agg [.lit (.int .u8 0), .lit (.int .u8 0)], .agg [.lit (.int .u8 0), .lit (.int .u8 0)], .agg [.lit (.int .u8 0), .lit (.int .u8 0)], .agg [.lit (.int .u8 0), .lit (.int .u8 0)], .agg [.lit (.int .u8 0), .lit (.int .u8 0)]]
def laid_errors_errorType {H : Type} : DataW H := .iface "internal/reflectlite.rtype" (.agg [.ptr (.lit (.string [101, 114, 114, 111, 114]))])
def laid_doorkeeper_reqline_others {H : Type} : DataW H := .agg [.lit (.string [80, 79, 83, 84]), .lit (.string [80, 85, 84]), .lit (.string [68, 69, 76, 69, 84, 69]), .lit (.string [80, 65, 84, 67, 72]), .lit (.string [84, 82, 65, 67, 69]), .lit (.string [67, 79, 78, 78, 69, 67, 84])]
def laid_doorkeeper_reqline_rules {H : Type} : DataW H := .iface "func table" (.agg [.agg [.lit (.int .i64 0), .iface "func" (.lit (.string [100, 111, 111, 114, 107, 101, 101, 112, 101, 114, 47, 111, 99, 116, 101, 116, 46, 73, 115, 84, 111, 107, 101, 110])), .lit (.int .i64 400)], .agg [.lit (.int .i64 1), .iface "func" (.lit (.string [100, 111, 111, 114, 107, 101, 101, 112, 101, 114, 47, 114, 101, 113, 108, 105, 110, 101, 46, 114, 117, 108, 101, 115, 36, 49])), .lit (.int .i64 400)], .agg [.lit (.int .i64 2), .iface "func" (.lit (.string [100, 111, 111, 114, 107, 101, 101, 112, 101, 114, 47, 114, 101, 113, 108, 105, 110, 101, 46, 118, 101, 114, 115, 105, 111, 110])), .lit (.int .i64 400)], .agg [.lit (.int .i64 2), .iface "func" (.lit (.string [100, 111, 111, 114, 107, 101, 101, 112, 101, 114, 47, 114, 101, 113, 108, 105, 110, 101, 46, 115, 117, 112, 112, 111, 114, 116, 101, 100])), .lit (.int .i64 505)]])
/-- One of Go's own tables, pinned by name: the form's constant. -/
def laid_unicode_utf8_first : DataW Unit := Go.Pinned.utf8First
def laid_doorkeeper_digest_roots {H : Type} : DataW H := .agg [.lit (.int .u32 1116352408), .lit (.int .u32 1899447441), .lit (.int .u32 3049323471), .lit (.int .u32 3921009573), .lit (.int .u32 961987163), .lit (.int .u32 1508970993), .lit (.int .u32 2453635748), .lit (.int .u32 2870763221), .lit (.int .u32 3624381080), .lit (.int .u32 310598401), .lit (.int .u32 607225278), .lit (.int .u32 1426881987), .lit (.int .u32 1925078388), .lit (.int .u32 2162078206), .lit (.int .u32 2614888103), .lit (.int .u32 3248222580), .lit (.int .u32 3835390401), .lit (.int .u32 4022224774), .lit (.int .u32 264347078), .lit (.int .u32 604807628), .lit (.int .u32 770255983), .lit (.int .u32 1249150122), .lit (.int .u32 1555081692), .lit (.int .u32 1996064986), .lit (.int .u32 2554220882), .lit (.int .u32 2821834349), .lit (.int .u32 2952996808), .lit (.int .u32 3210313671), .lit (.int .u32 3336571891), .lit (.int .u32 3584528711), .lit (.int .u32 113926993), .lit (.int .u32 338241895), .lit (.int .u32 666307205), .lit (.int .u32 773529912), .lit (.int .u32 1294757372), .lit (.int .u32 1396182291), .lit (.int .u32 1695183700), .lit (.int .u32 1986661051), .lit (.int .u32 2177026350), .lit (.int .u32 2456956037), .lit (.int .u32 2730485921), .lit (.int .u32 2820302411), .lit (.int .u32 3259730800), .lit (.int .u32 3345764771), .lit (.int .u32 3516065817), .lit (.int .u32 3600352804), .lit (.int .u32 4094571909), .lit (.int .u32 275423344), .lit (.int .u32 430227734), .lit (.int .u32 506948616), .lit (.int .u32 659060556), .lit (.int .u32 883997877), .lit (.int .u32 958139571), .lit (.int .u32 1322822218), .lit (.int .u32 1537002063), .lit (.int .u32 1747873779), .lit (.int .u32 1955562222), .lit (.int .u32 2024104815), .lit (.int .u32 2227730452), .lit (.int .u32 2361852424), .lit (.int .u32 2428436474), .lit (.int .u32 2756734187), .lit (.int .u32 3204031479), .lit (.int .u32 3329325298)]

/-- 'doorkeeperlaw10.ReqlineParses': WHATEVER THE INPUT: true; the input reads as it did. -/
def reqlineParsesSpec : ChangeSpec := { name := "reqlineParses", fn := fun _ => fun
  | [d] => { results := [.lit (.bool true)], args := [d] }
  | _ => none }
def reqlineParsesRow : OpenClaim := { program := "ytiolgglipcijpaadoor", sum := "c50af6dbd15fa19ffe8fe6d28fe0dbc263f75c99cf6dd70e5fdd5af248ad3046", func := "doorkeeper/doorkeeperlaw10.ReqlineParses", spec := "reqlineParses", inPlace := ["internal/bytealg.CountString", "internal/bytealg.IndexByteString", "internal/bytealg.IndexString", "internal/abi.NoEscape", "internal/bytealg.MakeNoZero", "internal/reflectlite.ValueOf", "(internal/reflectlite.Value).Type", "(internal/reflectlite.Value).IsNil", "internal/reflectlite.TypeOf", "(internal/reflectlite.Value).Elem", "(internal/reflectlite.Value).Set"], unfollowed := true, recurses := true, named := ["doorkeeper/reqline.rules", "unicode/utf8.first", "unicode/utf8.acceptRanges", "internal/bytealg.MaxLen", "errors.errorType", "doorkeeper/reqline.others"], apart := false, laid := [("unicode/utf8.acceptRanges", laid_unicode_utf8_acceptRanges), ("errors.errorType", laid_errors_errorType), ("doorkeeper/reqline.others", laid_doorkeeper_reqline_others), ("doorkeeper/reqline.rules", laid_doorkeeper_reqline_rules), ("unicode/utf8.first", laid_unicode_utf8_first)] }
def ReqlineParsesSaid : Prop := reqlineParsesRow.holds Tryd.pinned (OpenSpec.ofChange reqlineParsesSpec)

/-- ITS FALSE NEIGHBOUR: 'it returns false'. Refute it at one input. -/
def reqlineParsesWrong : ChangeSpec := { name := "reqlineParses", fn := fun _ => fun
  | [d] => { results := [.lit (.bool false)], args := [d] }
  | _ => none }
def ReqlineParsesWrongFalsely : Prop := reqlineParsesRow.holds Tryd.pinned (OpenSpec.ofChange reqlineParsesWrong)

/-- 'doorkeeperlaw10.ReqlineTexts': WHATEVER THE INPUT: true; the input reads as it did. -/
def reqlineTextsSpec : ChangeSpec := { name := "reqlineTexts", fn := fun _ => fun
  | [d1, d2, d3] => { results := [.lit (.bool true)], args := [d1, d2, d3] }
  | _ => none }
def reqlineTextsRow : OpenClaim := { program := "ytiolgglipcijpaadoor", sum := "c50af6dbd15fa19ffe8fe6d28fe0dbc263f75c99cf6dd70e5fdd5af248ad3046", func := "doorkeeper/doorkeeperlaw10.ReqlineTexts", spec := "reqlineTexts", inPlace := ["internal/bytealg.CountString", "internal/bytealg.IndexByteString", "internal/bytealg.IndexString", "internal/abi.NoEscape", "internal/bytealg.MakeNoZero", "internal/reflectlite.ValueOf", "(internal/reflectlite.Value).Type", "(internal/reflectlite.Value).IsNil", "internal/reflectlite.TypeOf", "(internal/reflectlite.Value).Elem", "(internal/reflectlite.Value).Set"], unfollowed := true, recurses := true, named := ["doorkeeper/reqline.rules", "unicode/utf8.first", "unicode/utf8.acceptRanges", "internal/bytealg.MaxLen", "errors.errorType", "doorkeeper/reqline.others"], apart := false, laid := [("unicode/utf8.acceptRanges", laid_unicode_utf8_acceptRanges), ("errors.errorType", laid_errors_errorType), ("doorkeeper/reqline.others", laid_doorkeeper_reqline_others), ("doorkeeper/reqline.rules", laid_doorkeeper_reqline_rules), ("unicode/utf8.first", laid_unicode_utf8_first)] }
def ReqlineTextsSaid : Prop := reqlineTextsRow.holds Tryd.pinned (OpenSpec.ofChange reqlineTextsSpec)

/-- ITS FALSE NEIGHBOUR: 'it returns false'. Refute it at one input. -/
def reqlineTextsWrong : ChangeSpec := { name := "reqlineTexts", fn := fun _ => fun
  | [d1, d2, d3] => { results := [.lit (.bool false)], args := [d1, d2, d3] }
  | _ => none }
def ReqlineTextsWrongFalsely : Prop := reqlineTextsRow.holds Tryd.pinned (OpenSpec.ofChange reqlineTextsWrong)

/-- 'doorkeeperlaw10.ReqlineKinds': WHATEVER THE INPUT: true; the input reads as it did. -/
def reqlineKindsSpec : ChangeSpec := { name := "reqlineKinds", fn := fun _ => fun
  | [d1, d2] => { results := [.lit (.bool true)], args := [d1, d2] }
  | _ => none }
def reqlineKindsRow : OpenClaim := { program := "ytiolgglipcijpaadoor", sum := "c50af6dbd15fa19ffe8fe6d28fe0dbc263f75c99cf6dd70e5fdd5af248ad3046", func := "doorkeeper/doorkeeperlaw10.ReqlineKinds", spec := "reqlineKinds", inPlace := ["internal/bytealg.CountString", "internal/bytealg.IndexByteString", "internal/bytealg.IndexString", "internal/abi.NoEscape", "internal/bytealg.MakeNoZero", "internal/reflectlite.ValueOf", "(internal/reflectlite.Value).Type", "(internal/reflectlite.Value).IsNil", "internal/reflectlite.TypeOf", "(internal/reflectlite.Value).Elem", "(internal/reflectlite.Value).Set"], unfollowed := true, recurses := true, named := ["doorkeeper/reqline.rules", "unicode/utf8.first", "unicode/utf8.acceptRanges", "internal/bytealg.MaxLen", "errors.errorType", "doorkeeper/reqline.others"], apart := false, laid := [("unicode/utf8.acceptRanges", laid_unicode_utf8_acceptRanges), ("errors.errorType", laid_errors_errorType), ("doorkeeper/reqline.others", laid_doorkeeper_reqline_others), ("doorkeeper/reqline.rules", laid_doorkeeper_reqline_rules), ("unicode/utf8.first", laid_unicode_utf8_first)] }
def ReqlineKindsSaid : Prop := reqlineKindsRow.holds Tryd.pinned (OpenSpec.ofChange reqlineKindsSpec)

/-- ITS FALSE NEIGHBOUR: 'it returns false'. Refute it at one input. -/
def reqlineKindsWrong : ChangeSpec := { name := "reqlineKinds", fn := fun _ => fun
  | [d1, d2] => { results := [.lit (.bool false)], args := [d1, d2] }
  | _ => none }
def ReqlineKindsWrongFalsely : Prop := reqlineKindsRow.holds Tryd.pinned (OpenSpec.ofChange reqlineKindsWrong)

/-- 'doorkeeperlaw10.ReqlineSpaces': WHATEVER THE INPUT: true; the input reads as it did. -/
def reqlineSpacesSpec : ChangeSpec := { name := "reqlineSpaces", fn := fun _ => fun
  | [d1, d2] => { results := [.lit (.bool true)], args := [d1, d2] }
  | _ => none }
def reqlineSpacesRow : OpenClaim := { program := "ytiolgglipcijpaadoor", sum := "c50af6dbd15fa19ffe8fe6d28fe0dbc263f75c99cf6dd70e5fdd5af248ad3046", func := "doorkeeper/doorkeeperlaw10.ReqlineSpaces", spec := "reqlineSpaces", inPlace := ["internal/bytealg.CountString", "internal/bytealg.IndexByteString", "internal/bytealg.IndexString", "internal/abi.NoEscape", "internal/bytealg.MakeNoZero", "internal/reflectlite.ValueOf", "(internal/reflectlite.Value).Type", "(internal/reflectlite.Value).IsNil", "internal/reflectlite.TypeOf", "(internal/reflectlite.Value).Elem", "(internal/reflectlite.Value).Set"], unfollowed := true, recurses := true, named := ["doorkeeper/reqline.rules", "unicode/utf8.first", "unicode/utf8.acceptRanges", "internal/bytealg.MaxLen", "errors.errorType", "doorkeeper/reqline.others"], apart := false, laid := [("unicode/utf8.acceptRanges", laid_unicode_utf8_acceptRanges), ("errors.errorType", laid_errors_errorType), ("doorkeeper/reqline.others", laid_doorkeeper_reqline_others), ("doorkeeper/reqline.rules", laid_doorkeeper_reqline_rules), ("unicode/utf8.first", laid_unicode_utf8_first)] }
def ReqlineSpacesSaid : Prop := reqlineSpacesRow.holds Tryd.pinned (OpenSpec.ofChange reqlineSpacesSpec)

/-- ITS FALSE NEIGHBOUR: 'it returns false'. Refute it at one input. -/
def reqlineSpacesWrong : ChangeSpec := { name := "reqlineSpaces", fn := fun _ => fun
  | [d1, d2] => { results := [.lit (.bool false)], args := [d1, d2] }
  | _ => none }
def ReqlineSpacesWrongFalsely : Prop := reqlineSpacesRow.holds Tryd.pinned (OpenSpec.ofChange reqlineSpacesWrong)

/-- 'doorkeeperlaw10.ReqlineVersions': WHATEVER THE INPUT: true; the input reads as it did. -/
def reqlineVersionsSpec : ChangeSpec := { name := "reqlineVersions", fn := fun _ => fun
  | [d1, d2, d3, d4] => { results := [.lit (.bool true)], args := [d1, d2, d3, d4] }
  | _ => none }
def reqlineVersionsRow : OpenClaim := { program := "ytiolgglipcijpaadoor", sum := "c50af6dbd15fa19ffe8fe6d28fe0dbc263f75c99cf6dd70e5fdd5af248ad3046", func := "doorkeeper/doorkeeperlaw10.ReqlineVersions", spec := "reqlineVersions", inPlace := ["internal/bytealg.CountString", "internal/bytealg.IndexByteString", "internal/bytealg.IndexString", "internal/abi.NoEscape", "internal/bytealg.MakeNoZero", "internal/reflectlite.ValueOf", "(internal/reflectlite.Value).Type", "(internal/reflectlite.Value).IsNil", "internal/reflectlite.TypeOf", "(internal/reflectlite.Value).Elem", "(internal/reflectlite.Value).Set"], unfollowed := true, recurses := true, named := ["doorkeeper/reqline.rules", "unicode/utf8.first", "unicode/utf8.acceptRanges", "internal/bytealg.MaxLen", "errors.errorType", "doorkeeper/reqline.others"], apart := false, laid := [("unicode/utf8.acceptRanges", laid_unicode_utf8_acceptRanges), ("errors.errorType", laid_errors_errorType), ("doorkeeper/reqline.others", laid_doorkeeper_reqline_others), ("doorkeeper/reqline.rules", laid_doorkeeper_reqline_rules), ("unicode/utf8.first", laid_unicode_utf8_first)] }
def ReqlineVersionsSaid : Prop := reqlineVersionsRow.holds Tryd.pinned (OpenSpec.ofChange reqlineVersionsSpec)

/-- ITS FALSE NEIGHBOUR: 'it returns false'. Refute it at one input. -/
def reqlineVersionsWrong : ChangeSpec := { name := "reqlineVersions", fn := fun _ => fun
  | [d1, d2, d3, d4] => { results := [.lit (.bool false)], args := [d1, d2, d3, d4] }
  | _ => none }
def ReqlineVersionsWrongFalsely : Prop := reqlineVersionsRow.holds Tryd.pinned (OpenSpec.ofChange reqlineVersionsWrong)

/-- 'doorkeeperlaw21.CredParses': WHATEVER THE INPUT: true; the input reads as it did. -/
def credParsesSpec : ChangeSpec := { name := "credParses", fn := fun _ => fun
  | [d] => { results := [.lit (.bool true)], args := [d] }
  | _ => none }
def credParsesRow : OpenClaim := { program := "ytiolgglipcijpaadoor", sum := "c50af6dbd15fa19ffe8fe6d28fe0dbc263f75c99cf6dd70e5fdd5af248ad3046", func := "doorkeeper/doorkeeperlaw21.CredParses", spec := "credParses", inPlace := ["internal/bytealg.IndexByteString", "internal/bytealg.IndexString", "internal/abi.NoEscape", "internal/bytealg.MakeNoZero"], unfollowed := true, recurses := true, named := ["internal/bytealg.MaxLen", "unicode/utf8.first", "unicode/utf8.acceptRanges", "doorkeeper/digest.roots"], apart := false, laid := [("unicode/utf8.acceptRanges", laid_unicode_utf8_acceptRanges), ("doorkeeper/digest.roots", laid_doorkeeper_digest_roots), ("unicode/utf8.first", laid_unicode_utf8_first)] }
def CredParsesSaid : Prop := credParsesRow.holds Tryd.pinned (OpenSpec.ofChange credParsesSpec)

/-- ITS FALSE NEIGHBOUR: 'it returns false'. Refute it at one input. -/
def credParsesWrong : ChangeSpec := { name := "credParses", fn := fun _ => fun
  | [d] => { results := [.lit (.bool false)], args := [d] }
  | _ => none }
def CredParsesWrongFalsely : Prop := credParsesRow.holds Tryd.pinned (OpenSpec.ofChange credParsesWrong)

/-- 'doorkeeperlaw21.CredInverse': WHATEVER THE INPUT: true; the input reads as it did. -/
def credInverseSpec : ChangeSpec := { name := "credInverse", fn := fun _ => fun
  | [d1, d2, d3] => { results := [.lit (.bool true)], args := [d1, d2, d3] }
  | _ => none }
def credInverseRow : OpenClaim := { program := "ytiolgglipcijpaadoor", sum := "c50af6dbd15fa19ffe8fe6d28fe0dbc263f75c99cf6dd70e5fdd5af248ad3046", func := "doorkeeper/doorkeeperlaw21.CredInverse", spec := "credInverse", inPlace := ["internal/bytealg.IndexByteString", "internal/bytealg.IndexString", "internal/abi.NoEscape", "internal/bytealg.MakeNoZero"], unfollowed := true, recurses := true, named := ["internal/bytealg.MaxLen", "unicode/utf8.first", "unicode/utf8.acceptRanges", "doorkeeper/digest.roots"], apart := false, laid := [("unicode/utf8.acceptRanges", laid_unicode_utf8_acceptRanges), ("doorkeeper/digest.roots", laid_doorkeeper_digest_roots), ("unicode/utf8.first", laid_unicode_utf8_first)] }
def CredInverseSaid : Prop := credInverseRow.holds Tryd.pinned (OpenSpec.ofChange credInverseSpec)

/-- ITS FALSE NEIGHBOUR: 'it returns false'. Refute it at one input. -/
def credInverseWrong : ChangeSpec := { name := "credInverse", fn := fun _ => fun
  | [d1, d2, d3] => { results := [.lit (.bool false)], args := [d1, d2, d3] }
  | _ => none }
def CredInverseWrongFalsely : Prop := credInverseRow.holds Tryd.pinned (OpenSpec.ofChange credInverseWrong)

/-- 'doorkeeperlaw21.CredVerifies': WHATEVER THE INPUT: true; the input reads as it did. -/
def credVerifiesSpec : ChangeSpec := { name := "credVerifies", fn := fun _ => fun
  | [d1, d2, d3] => { results := [.lit (.bool true)], args := [d1, d2, d3] }
  | _ => none }
def credVerifiesRow : OpenClaim := { program := "ytiolgglipcijpaadoor", sum := "c50af6dbd15fa19ffe8fe6d28fe0dbc263f75c99cf6dd70e5fdd5af248ad3046", func := "doorkeeper/doorkeeperlaw21.CredVerifies", spec := "credVerifies", inPlace := ["internal/bytealg.IndexByteString", "internal/bytealg.IndexString", "internal/abi.NoEscape", "internal/bytealg.MakeNoZero"], unfollowed := true, recurses := true, named := ["internal/bytealg.MaxLen", "unicode/utf8.first", "unicode/utf8.acceptRanges", "doorkeeper/digest.roots"], apart := false, laid := [("unicode/utf8.acceptRanges", laid_unicode_utf8_acceptRanges), ("doorkeeper/digest.roots", laid_doorkeeper_digest_roots), ("unicode/utf8.first", laid_unicode_utf8_first)] }
def CredVerifiesSaid : Prop := credVerifiesRow.holds Tryd.pinned (OpenSpec.ofChange credVerifiesSpec)

/-- ITS FALSE NEIGHBOUR: 'it returns false'. Refute it at one input. -/
def credVerifiesWrong : ChangeSpec := { name := "credVerifies", fn := fun _ => fun
  | [d1, d2, d3] => { results := [.lit (.bool false)], args := [d1, d2, d3] }
  | _ => none }
def CredVerifiesWrongFalsely : Prop := credVerifiesRow.holds Tryd.pinned (OpenSpec.ofChange credVerifiesWrong)

/- THE SECOND FORM. 'bulk': how many values and letters a reading holds, each counted each time it is reached (what is shared counts as often as it is met; a slice's spare places count too). A statement '..UptoSaid' is the law's where the arguments, and the package variables that the reading takes, are together of bulk at most 1048576: NARROWER than '..Said'. Prove '..Said' where nothing that the law and all that it calls make is longer than what came in: it says more and counts as full. Else prove '..UptoSaid'. A law counts once. -/
mutual
def uptoBulk {H : Type} : DataW H → Nat
  | .lit (.string bytes) => bytes.length + 1
  | .lit _ => 1
  | .nil => 1
  | .ptr d => uptoBulk d + 1
  | .slice elems spare => uptoBulkAll elems + uptoBulkAll spare + 1
  | .agg parts => uptoBulkAll parts + 1
  | .iface _ d => uptoBulk d + 1
  | .map entries => uptoBulkEntries entries + 1
  | .held _ => 1
def uptoBulkAll {H : Type} : List (DataW H) → Nat
  | [] => 0
  | d :: r => uptoBulk d + uptoBulkAll r
def uptoBulkEntries {H : Type} : List (Lit × DataW H) → Nat
  | [] => 0
  | x :: r => uptoBulkEntry x + uptoBulkEntries r
def uptoBulkEntry {H : Type} : Lit × DataW H → Nat
  | (.string bytes, d) => bytes.length + uptoBulk d + 1
  | (_, d) => uptoBulk d + 1
 end
def uptoSmall : (H : Type) → List (DataW H) → Bool := fun _ ds => decide (uptoBulkAll ds ≤ 1048576)
def OpenSpec.upto (s : _root_.Go.ChangeSpec) : _root_.Go.OpenSpec := { _root_.Go.OpenSpec.ofChange s with cond := some uptoSmall }

/-- 'doorkeeperlaw10.ReqlineParses', WHERE WHAT IT READS IS OF BULK AT MOST 1048576: true; the input reads as it did. -/
def reqlineParsesUptoRow : OpenClaim := { program := "ytiolgglipcijpaadoor", sum := "c50af6dbd15fa19ffe8fe6d28fe0dbc263f75c99cf6dd70e5fdd5af248ad3046", func := "doorkeeper/doorkeeperlaw10.ReqlineParses", spec := "reqlineParses", inPlace := ["internal/bytealg.CountString", "internal/bytealg.IndexByteString", "internal/bytealg.IndexString", "internal/abi.NoEscape", "internal/bytealg.MakeNoZero", "internal/reflectlite.ValueOf", "(internal/reflectlite.Value).Type", "(internal/reflectlite.Value).IsNil", "internal/reflectlite.TypeOf", "(internal/reflectlite.Value).Elem", "(internal/reflectlite.Value).Set"], unfollowed := true, recurses := true, named := ["doorkeeper/reqline.rules", "unicode/utf8.first", "unicode/utf8.acceptRanges", "internal/bytealg.MaxLen", "errors.errorType", "doorkeeper/reqline.others"], apart := false, laid := [("unicode/utf8.acceptRanges", laid_unicode_utf8_acceptRanges), ("errors.errorType", laid_errors_errorType), ("doorkeeper/reqline.others", laid_doorkeeper_reqline_others), ("doorkeeper/reqline.rules", laid_doorkeeper_reqline_rules), ("unicode/utf8.first", laid_unicode_utf8_first)], narrowed := true }
def ReqlineParsesUptoSaid : Prop := reqlineParsesUptoRow.holds Tryd.pinned (OpenSpec.upto reqlineParsesSpec)

/-- 'doorkeeperlaw10.ReqlineTexts', WHERE WHAT IT READS IS OF BULK AT MOST 1048576: true; the input reads as it did. -/
def reqlineTextsUptoRow : OpenClaim := { program := "ytiolgglipcijpaadoor", sum := "c50af6dbd15fa19ffe8fe6d28fe0dbc263f75c99cf6dd70e5fdd5af248ad3046", func := "doorkeeper/doorkeeperlaw10.ReqlineTexts", spec := "reqlineTexts", inPlace := ["internal/bytealg.CountString", "internal/bytealg.IndexByteString", "internal/bytealg.IndexString", "internal/abi.NoEscape", "internal/bytealg.MakeNoZero", "internal/reflectlite.ValueOf", "(internal/reflectlite.Value).Type", "(internal/reflectlite.Value).IsNil", "internal/reflectlite.TypeOf", "(internal/reflectlite.Value).Elem", "(internal/reflectlite.Value).Set"], unfollowed := true, recurses := true, named := ["doorkeeper/reqline.rules", "unicode/utf8.first", "unicode/utf8.acceptRanges", "internal/bytealg.MaxLen", "errors.errorType", "doorkeeper/reqline.others"], apart := false, laid := [("unicode/utf8.acceptRanges", laid_unicode_utf8_acceptRanges), ("errors.errorType", laid_errors_errorType), ("doorkeeper/reqline.others", laid_doorkeeper_reqline_others), ("doorkeeper/reqline.rules", laid_doorkeeper_reqline_rules), ("unicode/utf8.first", laid_unicode_utf8_first)], narrowed := true }
def ReqlineTextsUptoSaid : Prop := reqlineTextsUptoRow.holds Tryd.pinned (OpenSpec.upto reqlineTextsSpec)

/-- 'doorkeeperlaw10.ReqlineKinds', WHERE WHAT IT READS IS OF BULK AT MOST 1048576: true; the input reads as it did. -/
def reqlineKindsUptoRow : OpenClaim := { program := "ytiolgglipcijpaadoor", sum := "c50af6dbd15fa19ffe8fe6d28fe0dbc263f75c99cf6dd70e5fdd5af248ad3046", func := "doorkeeper/doorkeeperlaw10.ReqlineKinds", spec := "reqlineKinds", inPlace := ["internal/bytealg.CountString", "internal/bytealg.IndexByteString", "internal/bytealg.IndexString", "internal/abi.NoEscape", "internal/bytealg.MakeNoZero", "internal/reflectlite.ValueOf", "(internal/reflectlite.Value).Type", "(internal/reflectlite.Value).IsNil", "internal/reflectlite.TypeOf", "(internal/reflectlite.Value).Elem", "(internal/reflectlite.Value).Set"], unfollowed := true, recurses := true, named := ["doorkeeper/reqline.rules", "unicode/utf8.first", "unicode/utf8.acceptRanges", "internal/bytealg.MaxLen", "errors.errorType", "doorkeeper/reqline.others"], apart := false, laid := [("unicode/utf8.acceptRanges", laid_unicode_utf8_acceptRanges), ("errors.errorType", laid_errors_errorType), ("doorkeeper/reqline.others", laid_doorkeeper_reqline_others), ("doorkeeper/reqline.rules", laid_doorkeeper_reqline_rules), ("unicode/utf8.first", laid_unicode_utf8_first)], narrowed := true }
def ReqlineKindsUptoSaid : Prop := reqlineKindsUptoRow.holds Tryd.pinned (OpenSpec.upto reqlineKindsSpec)

/-- 'doorkeeperlaw10.ReqlineSpaces', WHERE WHAT IT READS IS OF BULK AT MOST 1048576: true; the input reads as it did. -/
def reqlineSpacesUptoRow : OpenClaim := { program := "ytiolgglipcijpaadoor", sum := "c50af6dbd15fa19ffe8fe6d28fe0dbc263f75c99cf6dd70e5fdd5af248ad3046", func := "doorkeeper/doorkeeperlaw10.ReqlineSpaces", spec := "reqlineSpaces", inPlace := ["internal/bytealg.CountString", "internal/bytealg.IndexByteString", "internal/bytealg.IndexString", "internal/abi.NoEscape", "internal/bytealg.MakeNoZero", "internal/reflectlite.ValueOf", "(internal/reflectlite.Value).Type", "(internal/reflectlite.Value).IsNil", "internal/reflectlite.TypeOf", "(internal/reflectlite.Value).Elem", "(internal/reflectlite.Value).Set"], unfollowed := true, recurses := true, named := ["doorkeeper/reqline.rules", "unicode/utf8.first", "unicode/utf8.acceptRanges", "internal/bytealg.MaxLen", "errors.errorType", "doorkeeper/reqline.others"], apart := false, laid := [("unicode/utf8.acceptRanges", laid_unicode_utf8_acceptRanges), ("errors.errorType", laid_errors_errorType), ("doorkeeper/reqline.others", laid_doorkeeper_reqline_others), ("doorkeeper/reqline.rules", laid_doorkeeper_reqline_rules), ("unicode/utf8.first", laid_unicode_utf8_first)], narrowed := true }
def ReqlineSpacesUptoSaid : Prop := reqlineSpacesUptoRow.holds Tryd.pinned (OpenSpec.upto reqlineSpacesSpec)

/-- 'doorkeeperlaw10.ReqlineVersions', WHERE WHAT IT READS IS OF BULK AT MOST 1048576: true; the input reads as it did. -/
def reqlineVersionsUptoRow : OpenClaim := { program := "ytiolgglipcijpaadoor", sum := "c50af6dbd15fa19ffe8fe6d28fe0dbc263f75c99cf6dd70e5fdd5af248ad3046", func := "doorkeeper/doorkeeperlaw10.ReqlineVersions", spec := "reqlineVersions", inPlace := ["internal/bytealg.CountString", "internal/bytealg.IndexByteString", "internal/bytealg.IndexString", "internal/abi.NoEscape", "internal/bytealg.MakeNoZero", "internal/reflectlite.ValueOf", "(internal/reflectlite.Value).Type", "(internal/reflectlite.Value).IsNil", "internal/reflectlite.TypeOf", "(internal/reflectlite.Value).Elem", "(internal/reflectlite.Value).Set"], unfollowed := true, recurses := true, named := ["doorkeeper/reqline.rules", "unicode/utf8.first", "unicode/utf8.acceptRanges", "internal/bytealg.MaxLen", "errors.errorType", "doorkeeper/reqline.others"], apart := false, laid := [("unicode/utf8.acceptRanges", laid_unicode_utf8_acceptRanges), ("errors.errorType", laid_errors_errorType), ("doorkeeper/reqline.others", laid_doorkeeper_reqline_others), ("doorkeeper/reqline.rules", laid_doorkeeper_reqline_rules), ("unicode/utf8.first", laid_unicode_utf8_first)], narrowed := true }
def ReqlineVersionsUptoSaid : Prop := reqlineVersionsUptoRow.holds Tryd.pinned (OpenSpec.upto reqlineVersionsSpec)

/-- 'doorkeeperlaw21.CredParses', WHERE WHAT IT READS IS OF BULK AT MOST 1048576: true; the input reads as it did. -/
def credParsesUptoRow : OpenClaim := { program := "ytiolgglipcijpaadoor", sum := "c50af6dbd15fa19ffe8fe6d28fe0dbc263f75c99cf6dd70e5fdd5af248ad3046", func := "doorkeeper/doorkeeperlaw21.CredParses", spec := "credParses", inPlace := ["internal/bytealg.IndexByteString", "internal/bytealg.IndexString", "internal/abi.NoEscape", "internal/bytealg.MakeNoZero"], unfollowed := true, recurses := true, named := ["internal/bytealg.MaxLen", "unicode/utf8.first", "unicode/utf8.acceptRanges", "doorkeeper/digest.roots"], apart := false, laid := [("unicode/utf8.acceptRanges", laid_unicode_utf8_acceptRanges), ("doorkeeper/digest.roots", laid_doorkeeper_digest_roots), ("unicode/utf8.first", laid_unicode_utf8_first)], narrowed := true }
def CredParsesUptoSaid : Prop := credParsesUptoRow.holds Tryd.pinned (OpenSpec.upto credParsesSpec)

/-- 'doorkeeperlaw21.CredInverse', WHERE WHAT IT READS IS OF BULK AT MOST 1048576: true; the input reads as it did. -/
def credInverseUptoRow : OpenClaim := { program := "ytiolgglipcijpaadoor", sum := "c50af6dbd15fa19ffe8fe6d28fe0dbc263f75c99cf6dd70e5fdd5af248ad3046", func := "doorkeeper/doorkeeperlaw21.CredInverse", spec := "credInverse", inPlace := ["internal/bytealg.IndexByteString", "internal/bytealg.IndexString", "internal/abi.NoEscape", "internal/bytealg.MakeNoZero"], unfollowed := true, recurses := true, named := ["internal/bytealg.MaxLen", "unicode/utf8.first", "unicode/utf8.acceptRanges", "doorkeeper/digest.roots"], apart := false, laid := [("unicode/utf8.acceptRanges", laid_unicode_utf8_acceptRanges), ("doorkeeper/digest.roots", laid_doorkeeper_digest_roots), ("unicode/utf8.first", laid_unicode_utf8_first)], narrowed := true }
def CredInverseUptoSaid : Prop := credInverseUptoRow.holds Tryd.pinned (OpenSpec.upto credInverseSpec)

/-- 'doorkeeperlaw21.CredVerifies', WHERE WHAT IT READS IS OF BULK AT MOST 1048576: true; the input reads as it did. -/
def credVerifiesUptoRow : OpenClaim := { program := "ytiolgglipcijpaadoor", sum := "c50af6dbd15fa19ffe8fe6d28fe0dbc263f75c99cf6dd70e5fdd5af248ad3046", func := "doorkeeper/doorkeeperlaw21.CredVerifies", spec := "credVerifies", inPlace := ["internal/bytealg.IndexByteString", "internal/bytealg.IndexString", "internal/abi.NoEscape", "internal/bytealg.MakeNoZero"], unfollowed := true, recurses := true, named := ["internal/bytealg.MaxLen", "unicode/utf8.first", "unicode/utf8.acceptRanges", "doorkeeper/digest.roots"], apart := false, laid := [("unicode/utf8.acceptRanges", laid_unicode_utf8_acceptRanges), ("doorkeeper/digest.roots", laid_doorkeeper_digest_roots), ("unicode/utf8.first", laid_unicode_utf8_first)], narrowed := true }
def CredVerifiesUptoSaid : Prop := credVerifiesUptoRow.holds Tryd.pinned (OpenSpec.upto credVerifiesSpec)

end Rows
end Go.Proofs.YtiolgglipcijpaaDoor
