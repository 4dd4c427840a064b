/-
  No cell of these rows narrows 'for every input' (looked for: loops, veiled, ifaces, maps, wideKeys, modest, calm, conditions, laid).
  DERIVED. THE GIVEN ROWS OF THIS SEAT. 9 by the template 'for every input the law returns true; each argument reads behind the call as it read before'; 0 by the template 'total and deterministic' (their statements: YtgfagophgipldaaTotals.lean).
  GIVEN WITH THE SEED: the statements are not yours to turn. If you find one false, say at which input.
  Laid BY PROGRAM, IN A SANDBOX (cutbox-rows.mjs): the forced cells as the released guide's own fill.sh prints them over the translation f0b0332a79f96aff… (all of the seat's roots in one cut). By AI agents, Wed Nov 11 2026. No macro, syntax, notation, axiom, sorry.
-/
import Derived.Test.YtgfagophgipldaaChecked
import GoSem.Claim
import GoSem.ClaimJoined
import GoSem.ClaimMapViews
import Derived.JoinedTies
import Derived.KernelRfl
namespace Go.Proofs.Ytgfagophgipldaa
/- THE CELL 'sum', in the pinned program and in every row, IS THE sha256 OF THE DUMP (.gsa) THAT YtgfagophgipldaaProg.lean LOADS. Nothing in Lean hashes anything: it is a label: what it is worth is what the hold of that sum in a sandbox is worth. -/
noncomputable def Try.pinned : Pinned := { name := "ytgfagophgipldaa", sum := "f0b0332a79f96affd198a1ef4efe240962bded2507098caabafd7f93739e9e6f", checked := Try.checked }
namespace Rows
def none {H : Type} : Left H := { results := [], args := [] }

/-- 'cosmaclaw04.FontMatchesReference': WHATEVER THE INPUT: true; the input reads as it did. -/
def fontMatchesReferenceSpec : ChangeSpec := { name := "fontMatchesReference", fn := fun _ => fun
  | [d] => { results := [.lit (.bool true)], args := [d] }
  | _ => none }
def fontMatchesReferenceRow : OpenClaim := { program := "ytgfagophgipldaa", sum := "f0b0332a79f96affd198a1ef4efe240962bded2507098caabafd7f93739e9e6f", func := "cosmac/cosmaclaw04.FontMatchesReference", spec := "fontMatchesReference", unfollowed := true, recurses := true, apart := false }
def FontMatchesReferenceSaid : Prop := fontMatchesReferenceRow.holds Try.pinned (OpenSpec.ofChange fontMatchesReferenceSpec)

/-- ITS FALSE NEIGHBOUR: 'it returns false'. Refute it at one input. -/
def fontMatchesReferenceWrong : ChangeSpec := { name := "fontMatchesReference", fn := fun _ => fun
  | [d] => { results := [.lit (.bool false)], args := [d] }
  | _ => none }
def FontMatchesReferenceWrongFalsely : Prop := fontMatchesReferenceRow.holds Try.pinned (OpenSpec.ofChange fontMatchesReferenceWrong)

/-- 'cosmaclaw04.FontGlyphs': WHATEVER THE INPUT: true; the input reads as it did. -/
def fontGlyphsSpec : ChangeSpec := { name := "fontGlyphs", fn := fun _ => fun
  | [d1, d2] => { results := [.lit (.bool true)], args := [d1, d2] }
  | _ => none }
def fontGlyphsRow : OpenClaim := { program := "ytgfagophgipldaa", sum := "f0b0332a79f96affd198a1ef4efe240962bded2507098caabafd7f93739e9e6f", func := "cosmac/cosmaclaw04.FontGlyphs", spec := "fontGlyphs", unfollowed := true, recurses := true, apart := false }
def FontGlyphsSaid : Prop := fontGlyphsRow.holds Try.pinned (OpenSpec.ofChange fontGlyphsSpec)

/-- ITS FALSE NEIGHBOUR: 'it returns false'. Refute it at one input. -/
def fontGlyphsWrong : ChangeSpec := { name := "fontGlyphs", fn := fun _ => fun
  | [d1, d2] => { results := [.lit (.bool false)], args := [d1, d2] }
  | _ => none }
def FontGlyphsWrongFalsely : Prop := fontGlyphsRow.holds Try.pinned (OpenSpec.ofChange fontGlyphsWrong)

/-- 'cosmaclaw04.FontKeeps': WHATEVER THE INPUT: true; the input reads as it did. -/
def fontKeepsSpec : ChangeSpec := { name := "fontKeeps", fn := fun _ => fun
  | [d] => { results := [.lit (.bool true)], args := [d] }
  | _ => none }
def fontKeepsRow : OpenClaim := { program := "ytgfagophgipldaa", sum := "f0b0332a79f96affd198a1ef4efe240962bded2507098caabafd7f93739e9e6f", func := "cosmac/cosmaclaw04.FontKeeps", spec := "fontKeeps", unfollowed := true, recurses := true, apart := false }
def FontKeepsSaid : Prop := fontKeepsRow.holds Try.pinned (OpenSpec.ofChange fontKeepsSpec)

/-- ITS FALSE NEIGHBOUR: 'it returns false'. Refute it at one input. -/
def fontKeepsWrong : ChangeSpec := { name := "fontKeeps", fn := fun _ => fun
  | [d] => { results := [.lit (.bool false)], args := [d] }
  | _ => none }
def FontKeepsWrongFalsely : Prop := fontKeepsRow.holds Try.pinned (OpenSpec.ofChange fontKeepsWrong)

/-- 'cosmaclaw04.FontShapes': WHATEVER THE INPUT: true; the input reads as it did. -/
def fontShapesSpec : ChangeSpec := { name := "fontShapes", fn := fun _ => fun
  | [d] => { results := [.lit (.bool true)], args := [d] }
  | _ => none }
def fontShapesRow : OpenClaim := { program := "ytgfagophgipldaa", sum := "f0b0332a79f96affd198a1ef4efe240962bded2507098caabafd7f93739e9e6f", func := "cosmac/cosmaclaw04.FontShapes", spec := "fontShapes", unfollowed := true, recurses := true, apart := false }
def FontShapesSaid : Prop := fontShapesRow.holds Try.pinned (OpenSpec.ofChange fontShapesSpec)

/-- ITS FALSE NEIGHBOUR: 'it returns false'. Refute it at one input. -/
def fontShapesWrong : ChangeSpec := { name := "fontShapes", fn := fun _ => fun
  | [d] => { results := [.lit (.bool false)], args := [d] }
  | _ => none }
def FontShapesWrongFalsely : Prop := fontShapesRow.holds Try.pinned (OpenSpec.ofChange fontShapesWrong)

/-- 'cosmaclaw05.MemLongest': WHATEVER THE INPUT: true; the input reads as it did. -/
def memLongestSpec : ChangeSpec := { name := "memLongest", fn := fun _ => fun
  | [d1, d2] => { results := [.lit (.bool true)], args := [d1, d2] }
  | _ => none }
def memLongestRow : OpenClaim := { program := "ytgfagophgipldaa", sum := "f0b0332a79f96affd198a1ef4efe240962bded2507098caabafd7f93739e9e6f", func := "cosmac/cosmaclaw05.MemLongest", spec := "memLongest", unfollowed := true, recurses := true, apart := false }
def MemLongestSaid : Prop := memLongestRow.holds Try.pinned (OpenSpec.ofChange memLongestSpec)

/-- ITS FALSE NEIGHBOUR: 'it returns false'. Refute it at one input. -/
def memLongestWrong : ChangeSpec := { name := "memLongest", fn := fun _ => fun
  | [d1, d2] => { results := [.lit (.bool false)], args := [d1, d2] }
  | _ => none }
def MemLongestWrongFalsely : Prop := memLongestRow.holds Try.pinned (OpenSpec.ofChange memLongestWrong)

/-- 'cosmaclaw05.MemMatchesReference': WHATEVER THE INPUT: true; the input reads as it did. -/
def memMatchesReferenceSpec : ChangeSpec := { name := "memMatchesReference", fn := fun _ => fun
  | [d1, d2, d3, d4] => { results := [.lit (.bool true)], args := [d1, d2, d3, d4] }
  | _ => none }
def memMatchesReferenceRow : OpenClaim := { program := "ytgfagophgipldaa", sum := "f0b0332a79f96affd198a1ef4efe240962bded2507098caabafd7f93739e9e6f", func := "cosmac/cosmaclaw05.MemMatchesReference", spec := "memMatchesReference", unfollowed := true, recurses := true, apart := false }
def MemMatchesReferenceSaid : Prop := memMatchesReferenceRow.holds Try.pinned (OpenSpec.ofChange memMatchesReferenceSpec)

/-- ITS FALSE NEIGHBOUR: 'it returns false'. Refute it at one input. -/
def memMatchesReferenceWrong : ChangeSpec := { name := "memMatchesReference", fn := fun _ => fun
  | [d1, d2, d3, d4] => { results := [.lit (.bool false)], args := [d1, d2, d3, d4] }
  | _ => none }
def MemMatchesReferenceWrongFalsely : Prop := memMatchesReferenceRow.holds Try.pinned (OpenSpec.ofChange memMatchesReferenceWrong)

/-- 'cosmaclaw05.MemReads': WHATEVER THE INPUT: true; the input reads as it did. -/
def memReadsSpec : ChangeSpec := { name := "memReads", fn := fun _ => fun
  | [d1, d2, d3, d4] => { results := [.lit (.bool true)], args := [d1, d2, d3, d4] }
  | _ => none }
def memReadsRow : OpenClaim := { program := "ytgfagophgipldaa", sum := "f0b0332a79f96affd198a1ef4efe240962bded2507098caabafd7f93739e9e6f", func := "cosmac/cosmaclaw05.MemReads", spec := "memReads", unfollowed := true, recurses := true, apart := false }
def MemReadsSaid : Prop := memReadsRow.holds Try.pinned (OpenSpec.ofChange memReadsSpec)

/-- ITS FALSE NEIGHBOUR: 'it returns false'. Refute it at one input. -/
def memReadsWrong : ChangeSpec := { name := "memReads", fn := fun _ => fun
  | [d1, d2, d3, d4] => { results := [.lit (.bool false)], args := [d1, d2, d3, d4] }
  | _ => none }
def MemReadsWrongFalsely : Prop := memReadsRow.holds Try.pinned (OpenSpec.ofChange memReadsWrong)

/-- 'cosmaclaw05.MemClones': WHATEVER THE INPUT: true; the input reads as it did. -/
def memClonesSpec : ChangeSpec := { name := "memClones", fn := fun _ => fun
  | [d1, d2, d3, d4] => { results := [.lit (.bool true)], args := [d1, d2, d3, d4] }
  | _ => none }
def memClonesRow : OpenClaim := { program := "ytgfagophgipldaa", sum := "f0b0332a79f96affd198a1ef4efe240962bded2507098caabafd7f93739e9e6f", func := "cosmac/cosmaclaw05.MemClones", spec := "memClones", unfollowed := true, recurses := true, apart := false }
def MemClonesSaid : Prop := memClonesRow.holds Try.pinned (OpenSpec.ofChange memClonesSpec)

/-- ITS FALSE NEIGHBOUR: 'it returns false'. Refute it at one input. -/
def memClonesWrong : ChangeSpec := { name := "memClones", fn := fun _ => fun
  | [d1, d2, d3, d4] => { results := [.lit (.bool false)], args := [d1, d2, d3, d4] }
  | _ => none }
def MemClonesWrongFalsely : Prop := memClonesRow.holds Try.pinned (OpenSpec.ofChange memClonesWrong)

/-- 'cosmaclaw05.MemOverwrites': WHATEVER THE INPUT: true; the input reads as it did. -/
def memOverwritesSpec : ChangeSpec := { name := "memOverwrites", fn := fun _ => fun
  | [d1, d2, d3, d4] => { results := [.lit (.bool true)], args := [d1, d2, d3, d4] }
  | _ => none }
def memOverwritesRow : OpenClaim := { program := "ytgfagophgipldaa", sum := "f0b0332a79f96affd198a1ef4efe240962bded2507098caabafd7f93739e9e6f", func := "cosmac/cosmaclaw05.MemOverwrites", spec := "memOverwrites", unfollowed := true, recurses := true, apart := false }
def MemOverwritesSaid : Prop := memOverwritesRow.holds Try.pinned (OpenSpec.ofChange memOverwritesSpec)

/-- ITS FALSE NEIGHBOUR: 'it returns false'. Refute it at one input. -/
def memOverwritesWrong : ChangeSpec := { name := "memOverwrites", fn := fun _ => fun
  | [d1, d2, d3, d4] => { results := [.lit (.bool false)], args := [d1, d2, d3, d4] }
  | _ => none }
def MemOverwritesWrongFalsely : Prop := memOverwritesRow.holds Try.pinned (OpenSpec.ofChange memOverwritesWrong)

/- THE SECOND FORM. 'bulk': how many values and letters a reading holds, each counted each time it is reached (what is shared counts as often as it is met; a slice's spare places count too). A statement '..UptoSaid' is the law's where the arguments, and the package variables that the reading takes, are together of bulk at most 1048576: NARROWER than '..Said'. Prove '..Said' where nothing that the law and all that it calls make is longer than what came in: it says more and counts as full. Else prove '..UptoSaid'. A law counts once. -/
mutual
def uptoBulk {H : Type} : DataW H → Nat
  | .lit (.string bytes) => bytes.length + 1
  | .lit _ => 1
  | .nil => 1
  | .ptr d => uptoBulk d + 1
  | .slice elems spare => uptoBulkAll elems + uptoBulkAll spare + 1
  | .agg parts => uptoBulkAll parts + 1
  | .iface _ d => uptoBulk d + 1
  | .map entries => uptoBulkEntries entries + 1
  | .held _ => 1
def uptoBulkAll {H : Type} : List (DataW H) → Nat
  | [] => 0
  | d :: r => uptoBulk d + uptoBulkAll r
def uptoBulkEntries {H : Type} : List (Lit × DataW H) → Nat
  | [] => 0
  | x :: r => uptoBulkEntry x + uptoBulkEntries r
def uptoBulkEntry {H : Type} : Lit × DataW H → Nat
  | (.string bytes, d) => bytes.length + uptoBulk d + 1
  | (_, d) => uptoBulk d + 1
 end
def uptoSmall : (H : Type) → List (DataW H) → Bool := fun _ ds => decide (uptoBulkAll ds ≤ 1048576)
def OpenSpec.upto (s : _root_.Go.ChangeSpec) : _root_.Go.OpenSpec := { _root_.Go.OpenSpec.ofChange s with cond := some uptoSmall }

/-- 'cosmaclaw04.FontMatchesReference', WHERE WHAT IT READS IS OF BULK AT MOST 1048576: true; the input reads as it did. -/
def fontMatchesReferenceUptoRow : OpenClaim := { program := "ytgfagophgipldaa", sum := "f0b0332a79f96affd198a1ef4efe240962bded2507098caabafd7f93739e9e6f", func := "cosmac/cosmaclaw04.FontMatchesReference", spec := "fontMatchesReference", unfollowed := true, recurses := true, apart := false, narrowed := true }
def FontMatchesReferenceUptoSaid : Prop := fontMatchesReferenceUptoRow.holds Try.pinned (OpenSpec.upto fontMatchesReferenceSpec)

/-- 'cosmaclaw04.FontGlyphs', WHERE WHAT IT READS IS OF BULK AT MOST 1048576: true; the input reads as it did. -/
def fontGlyphsUptoRow : OpenClaim := { program := "ytgfagophgipldaa", sum := "f0b0332a79f96affd198a1ef4efe240962bded2507098caabafd7f93739e9e6f", func := "cosmac/cosmaclaw04.FontGlyphs", spec := "fontGlyphs", unfollowed := true, recurses := true, apart := false, narrowed := true }
def FontGlyphsUptoSaid : Prop := fontGlyphsUptoRow.holds Try.pinned (OpenSpec.upto fontGlyphsSpec)

/-- 'cosmaclaw04.FontKeeps', WHERE WHAT IT READS IS OF BULK AT MOST 1048576: true; the input reads as it did. -/
def fontKeepsUptoRow : OpenClaim := { program := "ytgfagophgipldaa", sum := "f0b0332a79f96affd198a1ef4efe240962bded2507098caabafd7f93739e9e6f", func := "cosmac/cosmaclaw04.FontKeeps", spec := "fontKeeps", unfollowed := true, recurses := true, apart := false, narrowed := true }
def FontKeepsUptoSaid : Prop := fontKeepsUptoRow.holds Try.pinned (OpenSpec.upto fontKeepsSpec)

/-- 'cosmaclaw04.FontShapes', WHERE WHAT IT READS IS OF BULK AT MOST 1048576: true; the input reads as it did. -/
def fontShapesUptoRow : OpenClaim := { program := "ytgfagophgipldaa", sum := "f0b0332a79f96affd198a1ef4efe240962bded2507098caabafd7f93739e9e6f", func := "cosmac/cosmaclaw04.FontShapes", spec := "fontShapes", unfollowed := true, recurses := true, apart := false, narrowed := true }
def FontShapesUptoSaid : Prop := fontShapesUptoRow.holds Try.pinned (OpenSpec.upto fontShapesSpec)

/-- 'cosmaclaw05.MemLongest', WHERE WHAT IT READS IS OF BULK AT MOST 1048576: true; the input reads as it did. -/
def memLongestUptoRow : OpenClaim := { program := "ytgfagophgipldaa", sum := "f0b0332a79f96affd198a1ef4efe240962bded2507098caabafd7f93739e9e6f", func := "cosmac/cosmaclaw05.MemLongest", spec := "memLongest", unfollowed := true, recurses := true, apart := false, narrowed := true }
def MemLongestUptoSaid : Prop := memLongestUptoRow.holds Try.pinned (OpenSpec.upto memLongestSpec)

/-- 'cosmaclaw05.MemMatchesReference', WHERE WHAT IT READS IS OF BULK AT MOST 1048576: true; the input reads as it did. -/
def memMatchesReferenceUptoRow : OpenClaim := { program := "ytgfagophgipldaa", sum := "f0b0332a79f96affd198a1ef4efe240962bded2507098caabafd7f93739e9e6f", func := "cosmac/cosmaclaw05.MemMatchesReference", spec := "memMatchesReference", unfollowed := true, recurses := true, apart := false, narrowed := true }
def MemMatchesReferenceUptoSaid : Prop := memMatchesReferenceUptoRow.holds Try.pinned (OpenSpec.upto memMatchesReferenceSpec)

/-- 'cosmaclaw05.MemReads', WHERE WHAT IT READS IS OF BULK AT MOST 1048576: true; the input reads as it did. -/
def memReadsUptoRow : OpenClaim := { program := "ytgfagophgipldaa", sum := "f0b0332a79f96affd198a1ef4efe240962bded2507098caabafd7f93739e9e6f", func := "cosmac/cosmaclaw05.MemReads", spec := "memReads", unfollowed := true, recurses := true, apart := false, narrowed := true }
def MemReadsUptoSaid : Prop := memReadsUptoRow.holds Try.pinned (OpenSpec.upto memReadsSpec)

/-- 'cosmaclaw05.MemClones', WHERE WHAT IT READS IS OF BULK AT MOST 1048576: true; the input reads as it did. -/
def memClonesUptoRow : OpenClaim := { program := "ytgfagophgipldaa", sum := "f0b0332a79f96affd198a1ef4efe240962bded2507098caabafd7f93739e9e6f", func := "cosmac/cosmaclaw05.MemClones", spec := "memClones", unfollowed := true, recurses := true, apart := false, narrowed := true }
def MemClonesUptoSaid : Prop := memClonesUptoRow.holds Try.pinned (OpenSpec.upto memClonesSpec)

/-- 'cosmaclaw05.MemOverwrites', WHERE WHAT IT READS IS OF BULK AT MOST 1048576: true; the input reads as it did. -/
def memOverwritesUptoRow : OpenClaim := { program := "ytgfagophgipldaa", sum := "f0b0332a79f96affd198a1ef4efe240962bded2507098caabafd7f93739e9e6f", func := "cosmac/cosmaclaw05.MemOverwrites", spec := "memOverwrites", unfollowed := true, recurses := true, apart := false, narrowed := true }
def MemOverwritesUptoSaid : Prop := memOverwritesUptoRow.holds Try.pinned (OpenSpec.upto memOverwritesSpec)

end Rows
end Go.Proofs.Ytgfagophgipldaa
