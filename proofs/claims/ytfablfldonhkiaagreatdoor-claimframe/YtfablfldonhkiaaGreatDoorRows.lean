/-
  NARROWER THAN 'FOR EVERY INPUT', by the rows' own cells (each row's printed sentence says how): ClaimRows: loops, laid · ClaimValues: loops, laid · ClaimFrame: loops, laid.
  DERIVED. THE GIVEN ROWS OF THIS SEAT. 3 by the template 'for every input the law returns true; each argument reads behind the call as it read before'; 0 by the template 'total and deterministic' (their statements: YtfablfldonhkiaaGreatDoorTotals.lean).
  GIVEN WITH THE SEED: the statements are not yours to turn. If you find one false, say at which input.
  Laid BY PROGRAM, IN A SANDBOX (cutbox-rows.mjs): the forced cells as the released guide's own fill.sh prints them over the translation 7cf21f7392cf6444… (all of the seat's roots in one cut). By AI agents, Wed Nov 11 2026. No macro, syntax, notation, axiom, sorry.
-/
import Derived.Test.YtfablfldonhkiaaGreatDoorChecked
import GoSem.PinnedTables
import GoSem.Claim
import GoSem.ClaimJoined
import GoSem.ClaimMapViews
import Derived.JoinedTies
import Derived.KernelRfl
namespace Go.Proofs.YtfablfldonhkiaaGreatDoor
/- THE CELL 'sum', in the pinned program and in every row, IS THE sha256 OF THE DUMP (.gsa) THAT YtfablfldonhkiaaGreatDoorProg.lean LOADS. Nothing in Lean hashes anything: it is a label: what it is worth is what the hold of that sum in a sandbox is worth. -/
noncomputable def Tryz.pinned : Pinned := { name := "ytfablfldonhkiaagreatdoor", sum := "7cf21f7392cf6444c39d22ac1a6e902d8bd334492062b346ca9edfdd2551e53e", checked := Tryz.checked }
namespace Rows
def none {H : Type} : Left H := { results := [], args := [] }

/- WHAT THE LISTED PACKAGE-LEVEL VARIABLES READ AS WHEN THE CALL BEGINS. Each datum BY PROGRAM (the guide's laid-datum.mjs) off the statement by which the dump's own 'gosem.cut.vars' lays the variable. In a bare row this is a premise. The card (YtfablfldonhkiaaGreatDoorCards.lean) ties it to the program's text. -/
def laid_unicode_utf8_acceptRanges {H : Type} : DataW H := .agg [.agg [.lit (.int .u8 128), .lit (.int .u8 191)], .agg [.lit (.int .u8 160), .lit (.int .u8 191)], .agg [.lit (.int .u8 128), .lit (.int .u8 159)], .agg [.lit (.int .u8 144), .lit (.int .u8 191)], .agg [.lit (.int .u8 128), .lit (.int .u8 143)], .agg [.lit (.int .u8 0), .lit (.int .u8 0)], .agg [.lit (.int .u8 0), .lit (.int .u8 0)], .agg [.lit (.int .u8 0), .lit (.int .u8 0)], .agg [.lit (.int .u8 0), .lit (.int .u8 0)], .agg [.lit (.int .u8 0), .lit (.int .u8 0)], .agg [.lit (.int .u8 0), .lit (.int .u8 0)], .agg [.lit (.int .u8 0), .lit (.int .u8 0)], .agg [.lit (.int .u8 0), .lit (.int .u8 0)], .agg [.lit (.int .u8 0), .lit (.int .u8 0)], .agg [.lit (.int .u8 0), .lit (.int .u8 0)], .agg [.lit (.int .u8 0), .lit (.int .u8 0)]]
/-- One of Go's own tables, pinned by name: the form's constant. -/
def laid_unicode_utf8_first : DataW Unit := Go.Pinned.utf8First

/-- 'homesteadlaw19.ClaimRows': WHATEVER THE INPUT: true; the input reads as it did. -/
def claimRowsSpec : ChangeSpec := { name := "claimRows", fn := fun _ => fun
  | [d1, d2, d3, d4, d5] => { results := [.lit (.bool true)], args := [d1, d2, d3, d4, d5] }
  | _ => none }
def claimRowsRow : OpenClaim := { program := "ytfablfldonhkiaagreatdoor", sum := "7cf21f7392cf6444c39d22ac1a6e902d8bd334492062b346ca9edfdd2551e53e", func := "homestead/homesteadlaw19.ClaimRows", spec := "claimRows", inPlace := ["slices.overlaps[homestead/api.Line]", "internal/bytealg.IndexByteString", "internal/bytealg.IndexString", "slices.overlaps[homestead/api.Part]", "slices.overlaps[homestead/api.Value]", "slices.overlaps[homestead/api.Dot]"], unfollowed := true, recurses := true, named := ["unicode/utf8.first", "unicode/utf8.acceptRanges", "internal/bytealg.MaxLen"], loops := true, plainKeys := false, apart := false, laid := [("unicode/utf8.acceptRanges", laid_unicode_utf8_acceptRanges), ("unicode/utf8.first", laid_unicode_utf8_first)] }
def ClaimRowsSaid : Prop := claimRowsRow.holds Tryz.pinned (OpenSpec.ofChange claimRowsSpec)

/-- ITS FALSE NEIGHBOUR: 'it returns false'. Refute it at one input. -/
def claimRowsWrong : ChangeSpec := { name := "claimRows", fn := fun _ => fun
  | [d1, d2, d3, d4, d5] => { results := [.lit (.bool false)], args := [d1, d2, d3, d4, d5] }
  | _ => none }
def ClaimRowsWrongFalsely : Prop := claimRowsRow.holds Tryz.pinned (OpenSpec.ofChange claimRowsWrong)

/-- 'homesteadlaw19.ClaimValues': WHATEVER THE INPUT: true; the input reads as it did. -/
def claimValuesSpec : ChangeSpec := { name := "claimValues", fn := fun _ => fun
  | [d1, d2, d3, d4, d5] => { results := [.lit (.bool true)], args := [d1, d2, d3, d4, d5] }
  | _ => none }
def claimValuesRow : OpenClaim := { program := "ytfablfldonhkiaagreatdoor", sum := "7cf21f7392cf6444c39d22ac1a6e902d8bd334492062b346ca9edfdd2551e53e", func := "homestead/homesteadlaw19.ClaimValues", spec := "claimValues", inPlace := ["slices.overlaps[homestead/api.Line]", "internal/bytealg.IndexByteString", "internal/bytealg.IndexString", "slices.overlaps[homestead/api.Part]", "slices.overlaps[homestead/api.Value]", "slices.overlaps[homestead/api.Dot]"], unfollowed := true, recurses := true, named := ["unicode/utf8.first", "unicode/utf8.acceptRanges", "internal/bytealg.MaxLen"], loops := true, plainKeys := false, apart := false, laid := [("unicode/utf8.acceptRanges", laid_unicode_utf8_acceptRanges), ("unicode/utf8.first", laid_unicode_utf8_first)] }
def ClaimValuesSaid : Prop := claimValuesRow.holds Tryz.pinned (OpenSpec.ofChange claimValuesSpec)

/-- ITS FALSE NEIGHBOUR: 'it returns false'. Refute it at one input. -/
def claimValuesWrong : ChangeSpec := { name := "claimValues", fn := fun _ => fun
  | [d1, d2, d3, d4, d5] => { results := [.lit (.bool false)], args := [d1, d2, d3, d4, d5] }
  | _ => none }
def ClaimValuesWrongFalsely : Prop := claimValuesRow.holds Tryz.pinned (OpenSpec.ofChange claimValuesWrong)

/-- 'homesteadlaw19.ClaimFrame': WHATEVER THE INPUT: true; the input reads as it did. -/
def claimFrameSpec : ChangeSpec := { name := "claimFrame", fn := fun _ => fun
  | [d1, d2, d3, d4, d5, d6, d7] => { results := [.lit (.bool true)], args := [d1, d2, d3, d4, d5, d6, d7] }
  | _ => none }
def claimFrameRow : OpenClaim := { program := "ytfablfldonhkiaagreatdoor", sum := "7cf21f7392cf6444c39d22ac1a6e902d8bd334492062b346ca9edfdd2551e53e", func := "homestead/homesteadlaw19.ClaimFrame", spec := "claimFrame", inPlace := ["slices.overlaps[homestead/api.Line]", "internal/bytealg.IndexByteString", "internal/bytealg.IndexString", "slices.overlaps[homestead/api.Part]", "slices.overlaps[homestead/api.Value]", "slices.overlaps[homestead/api.Dot]"], unfollowed := true, recurses := true, named := ["unicode/utf8.first", "unicode/utf8.acceptRanges", "internal/bytealg.MaxLen"], loops := true, plainKeys := false, apart := false, laid := [("unicode/utf8.acceptRanges", laid_unicode_utf8_acceptRanges), ("unicode/utf8.first", laid_unicode_utf8_first)] }
def ClaimFrameSaid : Prop := claimFrameRow.holds Tryz.pinned (OpenSpec.ofChange claimFrameSpec)

/-- ITS FALSE NEIGHBOUR: 'it returns false'. Refute it at one input. -/
def claimFrameWrong : ChangeSpec := { name := "claimFrame", fn := fun _ => fun
  | [d1, d2, d3, d4, d5, d6, d7] => { results := [.lit (.bool false)], args := [d1, d2, d3, d4, d5, d6, d7] }
  | _ => none }
def ClaimFrameWrongFalsely : Prop := claimFrameRow.holds Tryz.pinned (OpenSpec.ofChange claimFrameWrong)

/- THE SECOND FORM. 'bulk': how many values and letters a reading holds, each counted each time it is reached (what is shared counts as often as it is met; a slice's spare places count too). A statement '..UptoSaid' is the law's where the arguments, and the package variables that the reading takes, are together of bulk at most 1048576: NARROWER than '..Said'. Prove '..Said' where nothing that the law and all that it calls make is longer than what came in: it says more and counts as full. Else prove '..UptoSaid'. A law counts once. -/
mutual
def uptoBulk {H : Type} : DataW H → Nat
  | .lit (.string bytes) => bytes.length + 1
  | .lit _ => 1
  | .nil => 1
  | .ptr d => uptoBulk d + 1
  | .slice elems spare => uptoBulkAll elems + uptoBulkAll spare + 1
  | .agg parts => uptoBulkAll parts + 1
  | .iface _ d => uptoBulk d + 1
  | .map entries => uptoBulkEntries entries + 1
  | .held _ => 1
def uptoBulkAll {H : Type} : List (DataW H) → Nat
  | [] => 0
  | d :: r => uptoBulk d + uptoBulkAll r
def uptoBulkEntries {H : Type} : List (Lit × DataW H) → Nat
  | [] => 0
  | x :: r => uptoBulkEntry x + uptoBulkEntries r
def uptoBulkEntry {H : Type} : Lit × DataW H → Nat
  | (.string bytes, d) => bytes.length + uptoBulk d + 1
  | (_, d) => uptoBulk d + 1
 end
def uptoSmall : (H : Type) → List (DataW H) → Bool := fun _ ds => decide (uptoBulkAll ds ≤ 1048576)
def OpenSpec.upto (s : _root_.Go.ChangeSpec) : _root_.Go.OpenSpec := { _root_.Go.OpenSpec.ofChange s with cond := some uptoSmall }

/-- 'homesteadlaw19.ClaimRows', WHERE WHAT IT READS IS OF BULK AT MOST 1048576: true; the input reads as it did. -/
def claimRowsUptoRow : OpenClaim := { program := "ytfablfldonhkiaagreatdoor", sum := "7cf21f7392cf6444c39d22ac1a6e902d8bd334492062b346ca9edfdd2551e53e", func := "homestead/homesteadlaw19.ClaimRows", spec := "claimRows", inPlace := ["slices.overlaps[homestead/api.Line]", "internal/bytealg.IndexByteString", "internal/bytealg.IndexString", "slices.overlaps[homestead/api.Part]", "slices.overlaps[homestead/api.Value]", "slices.overlaps[homestead/api.Dot]"], unfollowed := true, recurses := true, named := ["unicode/utf8.first", "unicode/utf8.acceptRanges", "internal/bytealg.MaxLen"], loops := true, plainKeys := false, apart := false, laid := [("unicode/utf8.acceptRanges", laid_unicode_utf8_acceptRanges), ("unicode/utf8.first", laid_unicode_utf8_first)], narrowed := true }
def ClaimRowsUptoSaid : Prop := claimRowsUptoRow.holds Tryz.pinned (OpenSpec.upto claimRowsSpec)

/-- 'homesteadlaw19.ClaimValues', WHERE WHAT IT READS IS OF BULK AT MOST 1048576: true; the input reads as it did. -/
def claimValuesUptoRow : OpenClaim := { program := "ytfablfldonhkiaagreatdoor", sum := "7cf21f7392cf6444c39d22ac1a6e902d8bd334492062b346ca9edfdd2551e53e", func := "homestead/homesteadlaw19.ClaimValues", spec := "claimValues", inPlace := ["slices.overlaps[homestead/api.Line]", "internal/bytealg.IndexByteString", "internal/bytealg.IndexString", "slices.overlaps[homestead/api.Part]", "slices.overlaps[homestead/api.Value]", "slices.overlaps[homestead/api.Dot]"], unfollowed := true, recurses := true, named := ["unicode/utf8.first", "unicode/utf8.acceptRanges", "internal/bytealg.MaxLen"], loops := true, plainKeys := false, apart := false, laid := [("unicode/utf8.acceptRanges", laid_unicode_utf8_acceptRanges), ("unicode/utf8.first", laid_unicode_utf8_first)], narrowed := true }
def ClaimValuesUptoSaid : Prop := claimValuesUptoRow.holds Tryz.pinned (OpenSpec.upto claimValuesSpec)

/-- 'homesteadlaw19.ClaimFrame', WHERE WHAT IT READS IS OF BULK AT MOST 1048576: true; the input reads as it did. -/
def claimFrameUptoRow : OpenClaim := { program := "ytfablfldonhkiaagreatdoor", sum := "7cf21f7392cf6444c39d22ac1a6e902d8bd334492062b346ca9edfdd2551e53e", func := "homestead/homesteadlaw19.ClaimFrame", spec := "claimFrame", inPlace := ["slices.overlaps[homestead/api.Line]", "internal/bytealg.IndexByteString", "internal/bytealg.IndexString", "slices.overlaps[homestead/api.Part]", "slices.overlaps[homestead/api.Value]", "slices.overlaps[homestead/api.Dot]"], unfollowed := true, recurses := true, named := ["unicode/utf8.first", "unicode/utf8.acceptRanges", "internal/bytealg.MaxLen"], loops := true, plainKeys := false, apart := false, laid := [("unicode/utf8.acceptRanges", laid_unicode_utf8_acceptRanges), ("unicode/utf8.first", laid_unicode_utf8_first)], narrowed := true }
def ClaimFrameUptoSaid : Prop := claimFrameUptoRow.holds Tryz.pinned (OpenSpec.upto claimFrameSpec)

end Rows
end Go.Proofs.YtfablfldonhkiaaGreatDoor
