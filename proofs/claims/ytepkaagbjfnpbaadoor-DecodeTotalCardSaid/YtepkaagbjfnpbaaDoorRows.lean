/-
  NARROWER THAN 'FOR EVERY INPUT', by the rows' own cells (each row's printed sentence says how): DecodeMatchesReference: laid · DecodeTotal: laid · DecodeShort: laid · DecodeOthers: laid · DecodeFields: laid.
  DERIVED. THE GIVEN ROWS OF THIS SEAT. 5 by the template 'for every input the law returns true; each argument reads behind the call as it read before'; 0 by the template 'total and deterministic' (their statements: YtepkaagbjfnpbaaDoorTotals.lean).
  GIVEN WITH THE SEED: the statements are not yours to turn. If you find one false, say at which input.
  Laid BY PROGRAM, IN A SANDBOX (cutbox-rows.mjs): the forced cells as the released guide's own fill.sh prints them over the translation d10d4bacbd50fc35… (all of the seat's roots in one cut). By AI agents, Wed Nov 11 2026. No macro, syntax, notation, axiom, sorry.
-/
import Derived.Test.YtepkaagbjfnpbaaDoorChecked
import GoSem.Claim
import GoSem.ClaimJoined
import GoSem.ClaimMapViews
import Derived.JoinedTies
import Derived.KernelRfl
namespace Go.Proofs.YtepkaagbjfnpbaaDoor
/- THE CELL 'sum', in the pinned program and in every row, IS THE sha256 OF THE DUMP (.gsa) THAT YtepkaagbjfnpbaaDoorProg.lean LOADS. Nothing in Lean hashes anything: it is a label: what it is worth is what the hold of that sum in a sandbox is worth. -/
noncomputable def Tryd.pinned : Pinned := { name := "ytepkaagbjfnpbaadoor", sum := "d10d4bacbd50fc35a3386f425896618c47df116eebd2c55de87a87c95eb481eb", checked := Tryd.checked }
namespace Rows
def none {H : Type} : Left H := { results := [], args := [] }

/- WHAT THE LISTED PACKAGE-LEVEL VARIABLES READ AS WHEN THE CALL BEGINS. Each datum BY PROGRAM (the guide's laid-datum.mjs) off the statement by which the dump's own 'gosem.cut.vars' lays the variable. In a bare row this is a premise. The card (YtepkaagbjfnpbaaDoorCards.lean) ties it to the program's text. -/
def laid_cosmac_decode_rules {H : Type} : DataW H := .iface "func table" (.agg [.agg [.lit (.int .i64 65535), .lit (.int .i64 224), .lit (.int .i64 1), .lit (.int .i64 1), .iface "func" (.lit (.string [99, 111, 115, 109, 97, 99, 47, 100, 101, 99, 111, 100, 101, 46, 110, 111, 110, 101]))], .agg [.lit (.int .i64 65535), .lit (.int .i64 238), .lit (.int .i64 2), .lit (.int .i64 1), .iface "func" (.lit (.string [99, 111, 115, 109, 97, 99, 47, 100, 101, 99, 111, 100, 101, 46, 110, 111, 110, 101]))], .agg [.lit (.int .i64 61440), .lit (.int .i64 4096), .lit (.int .i64 3), .lit (.int .i64 1), .iface "func" (.lit (.string [99, 111, 115, 109, 97, 99, 47, 100, 101, 99, 111, 100, 101, 46, 112, 105, 99, 107, 65, 100, 100, 114]))], .agg [.lit (.int .i64 61440), .lit (.int .i64 8192), .lit (.int .i64 4), .lit (.int .i64 1), .iface "func" (.lit (.string [99, 111, 115, 109, 97, 99, 47, 100, 101, 99, 111, 100, 101, 46, 112, 105, 99, 107, 65, 100, 100, 114]))], .agg [.lit (.int .i64 61440), .lit (.int .i64 12288), .lit (.int .i64 5), .lit (.int .i64 1), .iface "func" (.lit (.string [99, 111, 115, 109, 97, 99, 47, 100, 101, 99, 111, 100, 101, 46, 112, 105, 99, 107, 88, 78, 78]))], .agg [.lit (.int .i64 61440), .lit (.int .i64 16384), .lit (.int .i64 6), .lit (.int .i64 1), .iface "func" (.lit (.string [99, 111, 115, 109, 97, 99, 47, 100, 101, 99, 111, 100, 101, 46, 112, 105, 99, 107, 88, 78, 78]))], .agg [.lit (.int .i64 61455), .lit (.int .i64 20480), .lit (.int .i64 7), .lit (.int .i64 1), .iface "func" (.lit (.string [99, 111, 115, 109, 97, 99, 47, 100, 101, 99, 111, 100, 101, 46, 112, 105, 99, 107, 88, 89]))], .agg [.lit (.int .i64 61440), .lit (.int .i64 24576), .lit (.int .i64 8), .lit (.int .i64 1), .iface "func" (.lit (.string [99, 111, 115, 109, 97, 99, 47, 100, 101, 99, 111, 100, 101, 46, 112, 105, 99, 107, 88, 78, 78]))], .agg [.lit (.int .i64 61440), .lit (.int .i64 28672), .lit (.int .i64 9), .lit (.int .i64 1), .iface "func" (.lit (.string [99, 111, 115, 109, 97, 99, 47, 100, 101, 99, 111, 100, 101, 46, 112, 105, 99, 107, 88, 78, 78]))], .agg [.lit (.int .i64 61455), .lit (.int .i64 32768), .lit (.int .i64 10), .lit (.int .i64 1), .iface "func" (.lit (.string [99, 111, 115, 109, 97, 99, 47, 100, 101, 99, 111, 100, 101, 46, 112, 105, 99, 107, 88, 89]))], .agg [.lit (.int .i64 61455), .lit (.int .i64 32769), .lit (.int .i64 11), .lit (.int .i64 1), .iface "func" (.lit (.string [99, 111, 115, 109, 97, 99, 47, 100, 101, 99, 111, 100, 101, 46, 112, 105, 99, 107, 88, 89]))], .agg [.lit (.int .i64 61455), .lit (.int .i64 32770), .lit (.int .i64 12), .lit (.int .i64 1), .iface "func" (.lit (.string [99, 111, 115, 109, 97, 99, 47, 100, 101, 99, 111, 100, 101, 46, 112, 105, 99, 107, 88, 89]))], .agg [.lit (.int .i64 61455), .lit (.int .i64 32771), .lit (.int .i64 13), .lit (.int .i64 1), .iface "func" (.lit (.string [99, 111, 115, 109, 97, 99, 47, 100, 101, 99, 111, 100, 101, 46, 112, 105, 99, 107, 88, 89]))], .agg [.lit (.int .i64 61455), .lit (.int .i64 32772), .lit (.int .i64 14), .lit (.int .i64 1), .iface "func" (.lit (.string [99, 111, 115, 109, 97, 99, 47, 100, 101, 99, 111, 100, 101, 46, 112, 105, 99, 107, 88, 89]))], .agg [.lit (.int .i64 61455), .lit (.int .i64 32773), .lit (.int .i64 15), .lit (.int .i64 1), .iface "func" (.lit (.string [99, 111, 115, 109, 97, 99, 47, 100, 101, 99, 111, 100, 101, 46, 112, 105, 99, 107, 88, 89]))], .agg [.lit (.int .i64 61455), .lit (.int .i64 32774), .lit (.int .i64 16), .lit (.int .i64 1), .iface "func" (.lit (.string [99, 111, 115, 109, 97, 99, 47, 100, 101, 99, 111, 100, 101, 46, 112, 105, 99, 107, 88, 89]))], .agg [.lit (.int .i64 61455), .lit (.int .i64 32775), .lit (.int .i64 17), .lit (.int .i64 1), .iface "func" (.lit (.string [99, 111, 115, 109, 97, 99, 47, 100, 101, 99, 111, 100, 101, 46, 112, 105, 99, 107, 88, 89]))], .agg [.lit (.int .i64 61455), .lit (.int .i64 32782), .lit (.int .i64 18), .lit (.int .i64 1), .iface "func" (.lit (.string [99, 111, 115, 109, 97, 99, 47, 100, 101, 99, 111, 100, 101, 46, 112, 105, 99, 107, 88, 89]))], .agg [.lit (.int .i64 61455), .lit (.int .i64 36864), .lit (.int .i64 19), .lit (.int .i64 1), .iface "func" (.lit (.string [99, 111, 115, 109, 97, 99, 47, 100, 101, 99, 111, 100, 101, 46, 112, 105, 99, 107, 88, 89]))], .agg [.lit (.int .i64 61440), .lit (.int .i64 40960), .lit (.int .i64 20), .lit (.int .i64 1), .iface "func" (.lit (.string [99, 111, 115, 109, 97, 99, 47, 100, 101, 99, 111, 100, 101, 46, 112, 105, 99, 107, 65, 100, 100, 114]))], .agg [.lit (.int .i64 61440), .lit (.int .i64 45056), .lit (.int .i64 21), .lit (.int .i64 1), .iface "func" (.lit (.string [99, 111, 115, 109, 97, 99, 47, 100, 101, 99, 111, 100, 101, 46, 112, 105, 99, 107, 88, 65, 100, 100, 114]))], .agg [.lit (.int .i64 61440), .lit (.int .i64 49152), .lit (.int .i64 22), .lit (.int .i64 1), .iface "func" (.lit (.string [99, 111, 115, 109, 97, 99, 47, 100, 101, 99, 111, 100, 101, 46, 112, 105, 99, 107, 88, 78, 78]))], .agg [.lit (.int .i64 61455), .lit (.int .i64 53248), .lit (.int .i64 41), .lit (.int .i64 2), .iface "func" (.lit (.string [99, 111, 115, 109, 97, 99, 47, 100, 101, 99, 111, 100, 101, 46, 112, 105, 99, 107, 88, 89]))], .agg [.lit (.int .i64 61440), .lit (.int .i64 53248), .lit (.int .i64 23), .lit (.int .i64 1), .iface "func" (.lit (.string [99, 111, 115, 109, 97, 99, 47, 100, 101, 99, 111, 100, 101, 46, 112, 105, 99, 107, 88, 89, 78]))], .agg [.lit (.int .i64 61695), .lit (.int .i64 57502), .lit (.int .i64 24), .lit (.int .i64 1), .iface "func" (.lit (.string [99, 111, 115, 109, 97, 99, 47, 100, 101, 99, 111, 100, 101, 46, 112, 105, 99, 107, 88]))], .agg [.lit (.int .i64 61695), .lit (.int .i64 57505), .lit (.int .i64 25), .lit (.int .i64 1), .iface "func" (.lit (.string [99, 111, 115, 109, 97, 99, 47, 100, 101, 99, 111, 100, 101, 46, 112, 105, 99, 107, 88]))], .agg [.lit (.int .i64 61695), .lit (.int .i64 61447), .lit (.int .i64 26), .lit (.int .i64 1), .iface "func" (.lit (.string [99, 111, 115, 109, 97, 99, 47, 100, 101, 99, 111, 100, 101, 46, 112, 105, 99, 107, 88]))], .agg [.lit (.int .i64 61695), .lit (.int .i64 61450), .lit (.int .i64 27), .lit (.int .i64 1), .iface "func" (.lit (.string [99, 111, 115, 109, 97, 99, 47, 100, 101, 99, 111, 100, 101, 46, 112, 105, 99, 107, 88]))], .agg [.lit (.int .i64 61695), .lit (.int .i64 61461), .lit (.int .i64 28), .lit (.int .i64 1), .iface "func" (.lit (.string [99, 111, 115, 109, 97, 99, 47, 100, 101, 99, 111, 100, 101, 46, 112, 105, 99, 107, 88]))], .agg [.lit (.int .i64 61695), .lit (.int .i64 61464), .lit (.int .i64 29), .lit (.int .i64 1), .iface "func" (.lit (.string [99, 111, 115, 109, 97, 99, 47, 100, 101, 99, 111, 100, 101, 46, 112, 105, 99, 107, 88]))], .agg [.lit (.int .i64 61695), .lit (.int .i64 61470), .lit (.int .i64 30), .lit (.int .i64 1), .iface "func" (.lit (.string [99, 111, 115, 109, 97, 99, 47, 100, 101, 99, 111, 100, 101, 46, 112, 105, 99, 107, 88]))], .agg [.lit (.int .i64 61695), .lit (.int .i64 61481), .lit (.int .i64 31), .lit (.int .i64 1), .iface "func" (.lit (.string [99, 111, 115, 109, 97, 99, 47, 100, 101, 99, 111, 100, 101, 46, 112, 105, 99, 107, 88]))], .agg [.lit (.int .i64 61695), .lit (.int .i64 61491), .lit (.int .i64 32), .lit (.int .i64 1), .iface "func" (.lit (.string [99, 111, 115, 109, 97, 99, 47, 100, 101, 99, 111, 100, 101, 46, 112, 105, 99, 107, 88]))], .agg [.lit (.int .i64 61695), .lit (.int .i64 61525), .lit (.int .i64 33), .lit (.int .i64 1), .iface "func" (.lit (.string [99, 111, 115, 109, 97, 99, 47, 100, 101, 99, 111, 100, 101, 46, 112, 105, 99, 107, 88]))], .agg [.lit (.int .i64 61695), .lit (.int .i64 61541), .lit (.int .i64 34), .lit (.int .i64 1), .iface "func" (.lit (.string [99, 111, 115, 109, 97, 99, 47, 100, 101, 99, 111, 100, 101, 46, 112, 105, 99, 107, 88]))]])
def laid_cosmac_decode_later {H : Type} : DataW H := .iface "func table" (.agg [.agg [.lit (.int .i64 65520), .lit (.int .i64 192), .lit (.int .i64 35), .lit (.int .i64 2), .iface "func" (.lit (.string [99, 111, 115, 109, 97, 99, 47, 100, 101, 99, 111, 100, 101, 46, 112, 105, 99, 107, 78]))], .agg [.lit (.int .i64 65535), .lit (.int .i64 251), .lit (.int .i64 36), .lit (.int .i64 2), .iface "func" (.lit (.string [99, 111, 115, 109, 97, 99, 47, 100, 101, 99, 111, 100, 101, 46, 110, 111, 110, 101]))], .agg [.lit (.int .i64 65535), .lit (.int .i64 252), .lit (.int .i64 37), .lit (.int .i64 2), .iface "func" (.lit (.string [99, 111, 115, 109, 97, 99, 47, 100, 101, 99, 111, 100, 101, 46, 110, 111, 110, 101]))], .agg [.lit (.int .i64 65535), .lit (.int .i64 253), .lit (.int .i64 38), .lit (.int .i64 2), .iface "func" (.lit (.string [99, 111, 115, 109, 97, 99, 47, 100, 101, 99, 111, 100, 101, 46, 110, 111, 110, 101]))], .agg [.lit (.int .i64 65535), .lit (.int .i64 254), .lit (.int .i64 39), .lit (.int .i64 2), .iface "func" (.lit (.string [99, 111, 115, 109, 97, 99, 47, 100, 101, 99, 111, 100, 101, 46, 110, 111, 110, 101]))], .agg [.lit (.int .i64 65535), .lit (.int .i64 255), .lit (.int .i64 40), .lit (.int .i64 2), .iface "func" (.lit (.string [99, 111, 115, 109, 97, 99, 47, 100, 101, 99, 111, 100, 101, 46, 110, 111, 110, 101]))], .agg [.lit (.int .i64 61695), .lit (.int .i64 61488), .lit (.int .i64 42), .lit (.int .i64 2), .iface "func" (.lit (.string [99, 111, 115, 109, 97, 99, 47, 100, 101, 99, 111, 100, 101, 46, 112, 105, 99, 107, 88]))], .agg [.lit (.int .i64 61695), .lit (.int .i64 61557), .lit (.int .i64 43), .lit (.int .i64 2), .iface "func" (.lit (.string [99, 111, 115, 109, 97, 99, 47, 100, 101, 99, 111, 100, 101, 46, 112, 105, 99, 107, 88]))], .agg [.lit (.int .i64 61695), .lit (.int .i64 61573), .lit (.int .i64 44), .lit (.int .i64 2), .iface "func" (.lit (.string [99, 111, 115, 109, 97, 99, 47, 100, 101, 99, 111, 100, 101, 46, 112, 105, 99, 107, 88]))], .agg [.lit (.int .i64 65520), .lit (.int .i64 208), .lit (.int .i64 45), .lit (.int .i64 3), .iface "func" (.lit (.string [99, 111, 115, 109, 97, 99, 47, 100, 101, 99, 111, 100, 101, 46, 112, 105, 99, 107, 78]))], .agg [.lit (.int .i64 61455), .lit (.int .i64 20482), .lit (.int .i64 46), .lit (.int .i64 3), .iface "func" (.lit (.string [99, 111, 115, 109, 97, 99, 47, 100, 101, 99, 111, 100, 101, 46, 112, 105, 99, 107, 88, 89]))], .agg [.lit (.int .i64 61455), .lit (.int .i64 20483), .lit (.int .i64 47), .lit (.int .i64 3), .iface "func" (.lit (.string [99, 111, 115, 109, 97, 99, 47, 100, 101, 99, 111, 100, 101, 46, 112, 105, 99, 107, 88, 89]))], .agg [.lit (.int .i64 65535), .lit (.int .i64 61440), .lit (.int .i64 48), .lit (.int .i64 3), .iface "func" (.lit (.string [99, 111, 115, 109, 97, 99, 47, 100, 101, 99, 111, 100, 101, 46, 110, 111, 110, 101]))], .agg [.lit (.int .i64 61695), .lit (.int .i64 61441), .lit (.int .i64 49), .lit (.int .i64 3), .iface "func" (.lit (.string [99, 111, 115, 109, 97, 99, 47, 100, 101, 99, 111, 100, 101, 46, 112, 105, 99, 107, 80, 108, 97, 110, 101, 115]))], .agg [.lit (.int .i64 65535), .lit (.int .i64 61442), .lit (.int .i64 50), .lit (.int .i64 3), .iface "func" (.lit (.string [99, 111, 115, 109, 97, 99, 47, 100, 101, 99, 111, 100, 101, 46, 110, 111, 110, 101]))], .agg [.lit (.int .i64 61695), .lit (.int .i64 61498), .lit (.int .i64 51), .lit (.int .i64 3), .iface "func" (.lit (.string [99, 111, 115, 109, 97, 99, 47, 100, 101, 99, 111, 100, 101, 46, 112, 105, 99, 107, 88]))]])

/-- 'cosmaclaw14.DecodeMatchesReference': WHATEVER THE INPUT: true; the input reads as it did. -/
def decodeMatchesReferenceSpec : ChangeSpec := { name := "decodeMatchesReference", fn := fun _ => fun
  | [d1, d2, d3] => { results := [.lit (.bool true)], args := [d1, d2, d3] }
  | _ => none }
def decodeMatchesReferenceRow : OpenClaim := { program := "ytepkaagbjfnpbaadoor", sum := "d10d4bacbd50fc35a3386f425896618c47df116eebd2c55de87a87c95eb481eb", func := "cosmac/cosmaclaw14.DecodeMatchesReference", spec := "decodeMatchesReference", unfollowed := true, recurses := true, named := ["cosmac/decode.rules", "cosmac/decode.later"], apart := false, laid := [("cosmac/decode.rules", laid_cosmac_decode_rules), ("cosmac/decode.later", laid_cosmac_decode_later)] }
def DecodeMatchesReferenceSaid : Prop := decodeMatchesReferenceRow.holds Tryd.pinned (OpenSpec.ofChange decodeMatchesReferenceSpec)

/-- ITS FALSE NEIGHBOUR: 'it returns false'. Refute it at one input. -/
def decodeMatchesReferenceWrong : ChangeSpec := { name := "decodeMatchesReference", fn := fun _ => fun
  | [d1, d2, d3] => { results := [.lit (.bool false)], args := [d1, d2, d3] }
  | _ => none }
def DecodeMatchesReferenceWrongFalsely : Prop := decodeMatchesReferenceRow.holds Tryd.pinned (OpenSpec.ofChange decodeMatchesReferenceWrong)

/-- 'cosmaclaw14.DecodeTotal': WHATEVER THE INPUT: true; the input reads as it did. -/
def decodeTotalSpec : ChangeSpec := { name := "decodeTotal", fn := fun _ => fun
  | [d1, d2] => { results := [.lit (.bool true)], args := [d1, d2] }
  | _ => none }
def decodeTotalRow : OpenClaim := { program := "ytepkaagbjfnpbaadoor", sum := "d10d4bacbd50fc35a3386f425896618c47df116eebd2c55de87a87c95eb481eb", func := "cosmac/cosmaclaw14.DecodeTotal", spec := "decodeTotal", unfollowed := true, recurses := true, named := ["cosmac/decode.rules", "cosmac/decode.later"], apart := false, laid := [("cosmac/decode.rules", laid_cosmac_decode_rules), ("cosmac/decode.later", laid_cosmac_decode_later)] }
def DecodeTotalSaid : Prop := decodeTotalRow.holds Tryd.pinned (OpenSpec.ofChange decodeTotalSpec)

/-- ITS FALSE NEIGHBOUR: 'it returns false'. Refute it at one input. -/
def decodeTotalWrong : ChangeSpec := { name := "decodeTotal", fn := fun _ => fun
  | [d1, d2] => { results := [.lit (.bool false)], args := [d1, d2] }
  | _ => none }
def DecodeTotalWrongFalsely : Prop := decodeTotalRow.holds Tryd.pinned (OpenSpec.ofChange decodeTotalWrong)

/-- 'cosmaclaw14.DecodeShort': WHATEVER THE INPUT: true; the input reads as it did. -/
def decodeShortSpec : ChangeSpec := { name := "decodeShort", fn := fun _ => fun
  | [d1, d2, d3, d4] => { results := [.lit (.bool true)], args := [d1, d2, d3, d4] }
  | _ => none }
def decodeShortRow : OpenClaim := { program := "ytepkaagbjfnpbaadoor", sum := "d10d4bacbd50fc35a3386f425896618c47df116eebd2c55de87a87c95eb481eb", func := "cosmac/cosmaclaw14.DecodeShort", spec := "decodeShort", unfollowed := true, recurses := true, named := ["cosmac/decode.rules", "cosmac/decode.later"], apart := false, laid := [("cosmac/decode.rules", laid_cosmac_decode_rules), ("cosmac/decode.later", laid_cosmac_decode_later)] }
def DecodeShortSaid : Prop := decodeShortRow.holds Tryd.pinned (OpenSpec.ofChange decodeShortSpec)

/-- ITS FALSE NEIGHBOUR: 'it returns false'. Refute it at one input. -/
def decodeShortWrong : ChangeSpec := { name := "decodeShort", fn := fun _ => fun
  | [d1, d2, d3, d4] => { results := [.lit (.bool false)], args := [d1, d2, d3, d4] }
  | _ => none }
def DecodeShortWrongFalsely : Prop := decodeShortRow.holds Tryd.pinned (OpenSpec.ofChange decodeShortWrong)

/-- 'cosmaclaw14.DecodeOthers': WHATEVER THE INPUT: true; the input reads as it did. -/
def decodeOthersSpec : ChangeSpec := { name := "decodeOthers", fn := fun _ => fun
  | [d1, d2] => { results := [.lit (.bool true)], args := [d1, d2] }
  | _ => none }
def decodeOthersRow : OpenClaim := { program := "ytepkaagbjfnpbaadoor", sum := "d10d4bacbd50fc35a3386f425896618c47df116eebd2c55de87a87c95eb481eb", func := "cosmac/cosmaclaw14.DecodeOthers", spec := "decodeOthers", unfollowed := true, recurses := true, named := ["cosmac/decode.rules", "cosmac/decode.later"], apart := false, laid := [("cosmac/decode.rules", laid_cosmac_decode_rules), ("cosmac/decode.later", laid_cosmac_decode_later)] }
def DecodeOthersSaid : Prop := decodeOthersRow.holds Tryd.pinned (OpenSpec.ofChange decodeOthersSpec)

/-- ITS FALSE NEIGHBOUR: 'it returns false'. Refute it at one input. -/
def decodeOthersWrong : ChangeSpec := { name := "decodeOthers", fn := fun _ => fun
  | [d1, d2] => { results := [.lit (.bool false)], args := [d1, d2] }
  | _ => none }
def DecodeOthersWrongFalsely : Prop := decodeOthersRow.holds Tryd.pinned (OpenSpec.ofChange decodeOthersWrong)

/-- 'cosmaclaw14.DecodeFields': WHATEVER THE INPUT: true; the input reads as it did. -/
def decodeFieldsSpec : ChangeSpec := { name := "decodeFields", fn := fun _ => fun
  | [d1, d2] => { results := [.lit (.bool true)], args := [d1, d2] }
  | _ => none }
def decodeFieldsRow : OpenClaim := { program := "ytepkaagbjfnpbaadoor", sum := "d10d4bacbd50fc35a3386f425896618c47df116eebd2c55de87a87c95eb481eb", func := "cosmac/cosmaclaw14.DecodeFields", spec := "decodeFields", unfollowed := true, recurses := true, named := ["cosmac/decode.rules", "cosmac/decode.later"], apart := false, laid := [("cosmac/decode.rules", laid_cosmac_decode_rules), ("cosmac/decode.later", laid_cosmac_decode_later)] }
def DecodeFieldsSaid : Prop := decodeFieldsRow.holds Tryd.pinned (OpenSpec.ofChange decodeFieldsSpec)

/-- ITS FALSE NEIGHBOUR: 'it returns false'. Refute it at one input. -/
def decodeFieldsWrong : ChangeSpec := { name := "decodeFields", fn := fun _ => fun
  | [d1, d2] => { results := [.lit (.bool false)], args := [d1, d2] }
  | _ => none }
def DecodeFieldsWrongFalsely : Prop := decodeFieldsRow.holds Tryd.pinned (OpenSpec.ofChange decodeFieldsWrong)

/- THE SECOND FORM. 'bulk': how many values and letters a reading holds, each counted each time it is reached (what is shared counts as often as it is met; a slice's spare places count too). A statement '..UptoSaid' is the law's where the arguments, and the package variables that the reading takes, are together of bulk at most 1048576: NARROWER than '..Said'. Prove '..Said' where nothing that the law and all that it calls make is longer than what came in: it says more and counts as full. Else prove '..UptoSaid'. A law counts once. -/
mutual
def uptoBulk {H : Type} : DataW H → Nat
  | .lit (.string bytes) => bytes.length + 1
  | .lit _ => 1
  | .nil => 1
  | .ptr d => uptoBulk d + 1
  | .slice elems spare => uptoBulkAll elems + uptoBulkAll spare + 1
  | .agg parts => uptoBulkAll parts + 1
  | .iface _ d => uptoBulk d + 1
  | .map entries => uptoBulkEntries entries + 1
  | .held _ => 1
def uptoBulkAll {H : Type} : List (DataW H) → Nat
  | [] => 0
  | d :: r => uptoBulk d + uptoBulkAll r
def uptoBulkEntries {H : Type} : List (Lit × DataW H) → Nat
  | [] => 0
  | x :: r => uptoBulkEntry x + uptoBulkEntries r
def uptoBulkEntry {H : Type} : Lit × DataW H → Nat
  | (.string bytes, d) => bytes.length + uptoBulk d + 1
  | (_, d) => uptoBulk d + 1
 end
def uptoSmall : (H : Type) → List (DataW H) → Bool := fun _ ds => decide (uptoBulkAll ds ≤ 1048576)
def OpenSpec.upto (s : _root_.Go.ChangeSpec) : _root_.Go.OpenSpec := { _root_.Go.OpenSpec.ofChange s with cond := some uptoSmall }

/-- 'cosmaclaw14.DecodeMatchesReference', WHERE WHAT IT READS IS OF BULK AT MOST 1048576: true; the input reads as it did. -/
def decodeMatchesReferenceUptoRow : OpenClaim := { program := "ytepkaagbjfnpbaadoor", sum := "d10d4bacbd50fc35a3386f425896618c47df116eebd2c55de87a87c95eb481eb", func := "cosmac/cosmaclaw14.DecodeMatchesReference", spec := "decodeMatchesReference", unfollowed := true, recurses := true, named := ["cosmac/decode.rules", "cosmac/decode.later"], apart := false, laid := [("cosmac/decode.rules", laid_cosmac_decode_rules), ("cosmac/decode.later", laid_cosmac_decode_later)], narrowed := true }
def DecodeMatchesReferenceUptoSaid : Prop := decodeMatchesReferenceUptoRow.holds Tryd.pinned (OpenSpec.upto decodeMatchesReferenceSpec)

/-- 'cosmaclaw14.DecodeTotal', WHERE WHAT IT READS IS OF BULK AT MOST 1048576: true; the input reads as it did. -/
def decodeTotalUptoRow : OpenClaim := { program := "ytepkaagbjfnpbaadoor", sum := "d10d4bacbd50fc35a3386f425896618c47df116eebd2c55de87a87c95eb481eb", func := "cosmac/cosmaclaw14.DecodeTotal", spec := "decodeTotal", unfollowed := true, recurses := true, named := ["cosmac/decode.rules", "cosmac/decode.later"], apart := false, laid := [("cosmac/decode.rules", laid_cosmac_decode_rules), ("cosmac/decode.later", laid_cosmac_decode_later)], narrowed := true }
def DecodeTotalUptoSaid : Prop := decodeTotalUptoRow.holds Tryd.pinned (OpenSpec.upto decodeTotalSpec)

/-- 'cosmaclaw14.DecodeShort', WHERE WHAT IT READS IS OF BULK AT MOST 1048576: true; the input reads as it did. -/
def decodeShortUptoRow : OpenClaim := { program := "ytepkaagbjfnpbaadoor", sum := "d10d4bacbd50fc35a3386f425896618c47df116eebd2c55de87a87c95eb481eb", func := "cosmac/cosmaclaw14.DecodeShort", spec := "decodeShort", unfollowed := true, recurses := true, named := ["cosmac/decode.rules", "cosmac/decode.later"], apart := false, laid := [("cosmac/decode.rules", laid_cosmac_decode_rules), ("cosmac/decode.later", laid_cosmac_decode_later)], narrowed := true }
def DecodeShortUptoSaid : Prop := decodeShortUptoRow.holds Tryd.pinned (OpenSpec.upto decodeShortSpec)

/-- 'cosmaclaw14.DecodeOthers', WHERE WHAT IT READS IS OF BULK AT MOST 1048576: true; the input reads as it did. -/
def decodeOthersUptoRow : OpenClaim := { program := "ytepkaagbjfnpbaadoor", sum := "d10d4bacbd50fc35a3386f425896618c47df116eebd2c55de87a87c95eb481eb", func := "cosmac/cosmaclaw14.DecodeOthers", spec := "decodeOthers", unfollowed := true, recurses := true, named := ["cosmac/decode.rules", "cosmac/decode.later"], apart := false, laid := [("cosmac/decode.rules", laid_cosmac_decode_rules), ("cosmac/decode.later", laid_cosmac_decode_later)], narrowed := true }
def DecodeOthersUptoSaid : Prop := decodeOthersUptoRow.holds Tryd.pinned (OpenSpec.upto decodeOthersSpec)

/-- 'cosmaclaw14.DecodeFields', WHERE WHAT IT READS IS OF BULK AT MOST 1048576: true; the input reads as it did. -/
def decodeFieldsUptoRow : OpenClaim := { program := "ytepkaagbjfnpbaadoor", sum := "d10d4bacbd50fc35a3386f425896618c47df116eebd2c55de87a87c95eb481eb", func := "cosmac/cosmaclaw14.DecodeFields", spec := "decodeFields", unfollowed := true, recurses := true, named := ["cosmac/decode.rules", "cosmac/decode.later"], apart := false, laid := [("cosmac/decode.rules", laid_cosmac_decode_rules), ("cosmac/decode.later", laid_cosmac_decode_later)], narrowed := true }
def DecodeFieldsUptoSaid : Prop := decodeFieldsUptoRow.holds Tryd.pinned (OpenSpec.upto decodeFieldsSpec)

end Rows
end Go.Proofs.YtepkaagbjfnpbaaDoor
