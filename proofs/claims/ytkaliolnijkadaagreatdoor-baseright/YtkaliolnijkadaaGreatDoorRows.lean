/-
  NARROWER THAN 'FOR EVERY INPUT', by the rows' own cells (each row's printed sentence says how): BaseRight: loops, laid · BaseTurns: laid · BasePut: loops, laid · BaseDrop: loops, laid · BaseOrder: loops, laid · BaseShows: loops, laid · BaseWrote: laid.
  DERIVED. THE GIVEN ROWS OF THIS SEAT. 7 by the template 'for every input the law returns true; each argument reads behind the call as it read before'; 0 by the template 'total and deterministic' (their statements: YtkaliolnijkadaaGreatDoorTotals.lean).
  GIVEN WITH THE SEED: the statements are not yours to turn. If you find one false, say at which input.
  Laid BY PROGRAM, IN A SANDBOX (cutbox-rows.mjs): the forced cells as the released guide's own fill.sh prints them over the translation 0d73b1b4a84fba11… (all of the seat's roots in one cut). By AI agents, Wed Nov 11 2026. No macro, syntax, notation, axiom, sorry.
-/
import Derived.Test.YtkaliolnijkadaaGreatDoorChecked
import GoSem.PinnedTables
import GoSem.Claim
import GoSem.ClaimJoined
import GoSem.ClaimMapViews
import Derived.JoinedTies
import Derived.KernelRfl
namespace Go.Proofs.YtkaliolnijkadaaGreatDoor
/- THE CELL 'sum', in the pinned program and in every row, IS THE sha256 OF THE DUMP (.gsa) THAT YtkaliolnijkadaaGreatDoorProg.lean LOADS. Nothing in Lean hashes anything: it is a label: what it is worth is what the hold of that sum in a sandbox is worth. -/
noncomputable def Tryz.pinned : Pinned := { name := "ytkaliolnijkadaagreatdoor", sum := "0d73b1b4a84fba11cdf6a332b8a39575cc51c93509d32db922b20d18f249419c", checked := Tryz.checked }
namespace Rows
def none {H : Type} : Left H := { results := [], args := [] }

/- WHAT THE LISTED PACKAGE-LEVEL VARIABLES READ AS WHEN THE CALL BEGINS. Each datum BY PROGRAM (the guide's laid-datum.mjs) off the statement by which the dump's own 'gosem.cut.vars' lays the variable. In a bare row this is a premise. The card (YtkaliolnijkadaaGreatDoorCards.lean) ties it to the program's text. -/
def laid_unicode_utf8_acceptRanges {H : Type} : DataW H := .agg [.agg [.lit (.int .u8 128), .lit (.int .u8 191)], .agg [.lit (.int .u8 160), .lit (.int .u8 191)], .agg [.lit (.int .u8 128), .lit (.int .u8 159)], .agg [.lit (.int .u8 144), .lit (.int .u8 191)], .agg [.lit (.int .u8 128), .lit (.int .u8 143)], .agg [.lit (.int .u8 0), .lit (.int .u8 0)], .agg [.lit (.int .u8 0), .lit (.int .u8 0)], .agg [.lit (.int .u8 0), .lit (.int .u8 0)], .agg [.lit (.int .u8 0), .lit (.int .u8 0)], .agg [.lit (.int .u8 0), .lit (.int .u8 0)], .agg [.lit (.int .u8 0), .lit (.int .u8 0)], .agg [.lit (.int .u8 0), .lit (.int .u8 0)], .agg [.lit (.int .u8 0), .lit (.int .u8 0)], .agg [.lit (.int .u8 0), .lit (.int .u8 0)], .agg [.lit (.int .u8 0), .lit (.int .u8 0)], .agg [.lit (.int .u8 0), .lit (.int .u8 0)]]
/-- One of Go's own tables, pinned by name: the form's constant. -/
def laid_unicode_utf8_first : DataW Unit := Go.Pinned.utf8First

/-- 'homesteadlaw13.BaseRight': WHATEVER THE INPUT: true; the input reads as it did. -/
def baseRightSpec : ChangeSpec := { name := "baseRight", fn := fun _ => fun
  | [d1, d2] => { results := [.lit (.bool true)], args := [d1, d2] }
  | _ => none }
def baseRightRow : OpenClaim := { program := "ytkaliolnijkadaagreatdoor", sum := "0d73b1b4a84fba11cdf6a332b8a39575cc51c93509d32db922b20d18f249419c", func := "homestead/homesteadlaw13.BaseRight", spec := "baseRight", inPlace := ["slices.overlaps[homestead/api.Line]", "slices.overlaps[homestead/api.Value]", "slices.overlaps[homestead/api.Dot]", "internal/bytealg.IndexByteString", "internal/bytealg.IndexString"], unfollowed := true, recurses := true, named := ["unicode/utf8.first", "unicode/utf8.acceptRanges", "internal/bytealg.MaxLen"], loops := true, plainKeys := false, apart := false, laid := [("unicode/utf8.acceptRanges", laid_unicode_utf8_acceptRanges), ("unicode/utf8.first", laid_unicode_utf8_first)] }
def BaseRightSaid : Prop := baseRightRow.holds Tryz.pinned (OpenSpec.ofChange baseRightSpec)

/-- ITS FALSE NEIGHBOUR: 'it returns false'. Refute it at one input. -/
def baseRightWrong : ChangeSpec := { name := "baseRight", fn := fun _ => fun
  | [d1, d2] => { results := [.lit (.bool false)], args := [d1, d2] }
  | _ => none }
def BaseRightWrongFalsely : Prop := baseRightRow.holds Tryz.pinned (OpenSpec.ofChange baseRightWrong)

/-- 'homesteadlaw13.BaseTurns': WHATEVER THE INPUT: true; the input reads as it did. -/
def baseTurnsSpec : ChangeSpec := { name := "baseTurns", fn := fun _ => fun
  | [d1, d2, d3] => { results := [.lit (.bool true)], args := [d1, d2, d3] }
  | _ => none }
def baseTurnsRow : OpenClaim := { program := "ytkaliolnijkadaagreatdoor", sum := "0d73b1b4a84fba11cdf6a332b8a39575cc51c93509d32db922b20d18f249419c", func := "homestead/homesteadlaw13.BaseTurns", spec := "baseTurns", inPlace := ["slices.overlaps[homestead/api.Line]", "slices.overlaps[homestead/api.Value]", "slices.overlaps[homestead/api.Dot]", "internal/bytealg.IndexByteString", "internal/bytealg.IndexString"], unfollowed := true, recurses := true, named := ["unicode/utf8.first", "unicode/utf8.acceptRanges", "internal/bytealg.MaxLen"], plainKeys := false, apart := false, laid := [("unicode/utf8.acceptRanges", laid_unicode_utf8_acceptRanges), ("unicode/utf8.first", laid_unicode_utf8_first)] }
def BaseTurnsSaid : Prop := baseTurnsRow.holds Tryz.pinned (OpenSpec.ofChange baseTurnsSpec)

/-- ITS FALSE NEIGHBOUR: 'it returns false'. Refute it at one input. -/
def baseTurnsWrong : ChangeSpec := { name := "baseTurns", fn := fun _ => fun
  | [d1, d2, d3] => { results := [.lit (.bool false)], args := [d1, d2, d3] }
  | _ => none }
def BaseTurnsWrongFalsely : Prop := baseTurnsRow.holds Tryz.pinned (OpenSpec.ofChange baseTurnsWrong)

/-- 'homesteadlaw13.BasePut': WHATEVER THE INPUT: true; the input reads as it did. -/
def basePutSpec : ChangeSpec := { name := "basePut", fn := fun _ => fun
  | [d1, d2, d3, d4] => { results := [.lit (.bool true)], args := [d1, d2, d3, d4] }
  | _ => none }
def basePutRow : OpenClaim := { program := "ytkaliolnijkadaagreatdoor", sum := "0d73b1b4a84fba11cdf6a332b8a39575cc51c93509d32db922b20d18f249419c", func := "homestead/homesteadlaw13.BasePut", spec := "basePut", inPlace := ["internal/bytealg.IndexByteString", "internal/bytealg.IndexString", "slices.overlaps[homestead/api.Line]", "slices.overlaps[homestead/api.Value]", "slices.overlaps[homestead/api.Dot]"], unfollowed := true, recurses := true, named := ["unicode/utf8.first", "unicode/utf8.acceptRanges", "internal/bytealg.MaxLen"], loops := true, plainKeys := false, apart := false, laid := [("unicode/utf8.acceptRanges", laid_unicode_utf8_acceptRanges), ("unicode/utf8.first", laid_unicode_utf8_first)] }
def BasePutSaid : Prop := basePutRow.holds Tryz.pinned (OpenSpec.ofChange basePutSpec)

/-- ITS FALSE NEIGHBOUR: 'it returns false'. Refute it at one input. -/
def basePutWrong : ChangeSpec := { name := "basePut", fn := fun _ => fun
  | [d1, d2, d3, d4] => { results := [.lit (.bool false)], args := [d1, d2, d3, d4] }
  | _ => none }
def BasePutWrongFalsely : Prop := basePutRow.holds Tryz.pinned (OpenSpec.ofChange basePutWrong)

/-- 'homesteadlaw13.BaseDrop': WHATEVER THE INPUT: true; the input reads as it did. -/
def baseDropSpec : ChangeSpec := { name := "baseDrop", fn := fun _ => fun
  | [d1, d2, d3] => { results := [.lit (.bool true)], args := [d1, d2, d3] }
  | _ => none }
def baseDropRow : OpenClaim := { program := "ytkaliolnijkadaagreatdoor", sum := "0d73b1b4a84fba11cdf6a332b8a39575cc51c93509d32db922b20d18f249419c", func := "homestead/homesteadlaw13.BaseDrop", spec := "baseDrop", inPlace := ["internal/bytealg.IndexByteString", "internal/bytealg.IndexString", "slices.overlaps[homestead/api.Line]", "slices.overlaps[homestead/api.Value]", "slices.overlaps[homestead/api.Dot]"], unfollowed := true, recurses := true, named := ["unicode/utf8.first", "unicode/utf8.acceptRanges", "internal/bytealg.MaxLen"], loops := true, plainKeys := false, apart := false, laid := [("unicode/utf8.acceptRanges", laid_unicode_utf8_acceptRanges), ("unicode/utf8.first", laid_unicode_utf8_first)] }
def BaseDropSaid : Prop := baseDropRow.holds Tryz.pinned (OpenSpec.ofChange baseDropSpec)

/-- ITS FALSE NEIGHBOUR: 'it returns false'. Refute it at one input. -/
def baseDropWrong : ChangeSpec := { name := "baseDrop", fn := fun _ => fun
  | [d1, d2, d3] => { results := [.lit (.bool false)], args := [d1, d2, d3] }
  | _ => none }
def BaseDropWrongFalsely : Prop := baseDropRow.holds Tryz.pinned (OpenSpec.ofChange baseDropWrong)

/-- 'homesteadlaw13.BaseOrder': WHATEVER THE INPUT: true; the input reads as it did. -/
def baseOrderSpec : ChangeSpec := { name := "baseOrder", fn := fun _ => fun
  | [d1, d2, d3, d4] => { results := [.lit (.bool true)], args := [d1, d2, d3, d4] }
  | _ => none }
def baseOrderRow : OpenClaim := { program := "ytkaliolnijkadaagreatdoor", sum := "0d73b1b4a84fba11cdf6a332b8a39575cc51c93509d32db922b20d18f249419c", func := "homestead/homesteadlaw13.BaseOrder", spec := "baseOrder", inPlace := ["internal/bytealg.IndexByteString", "internal/bytealg.IndexString", "slices.overlaps[homestead/api.Line]", "slices.overlaps[homestead/api.Value]", "slices.overlaps[homestead/api.Dot]"], unfollowed := true, recurses := true, named := ["unicode/utf8.first", "unicode/utf8.acceptRanges", "internal/bytealg.MaxLen"], loops := true, plainKeys := false, apart := false, laid := [("unicode/utf8.acceptRanges", laid_unicode_utf8_acceptRanges), ("unicode/utf8.first", laid_unicode_utf8_first)] }
def BaseOrderSaid : Prop := baseOrderRow.holds Tryz.pinned (OpenSpec.ofChange baseOrderSpec)

/-- ITS FALSE NEIGHBOUR: 'it returns false'. Refute it at one input. -/
def baseOrderWrong : ChangeSpec := { name := "baseOrder", fn := fun _ => fun
  | [d1, d2, d3, d4] => { results := [.lit (.bool false)], args := [d1, d2, d3, d4] }
  | _ => none }
def BaseOrderWrongFalsely : Prop := baseOrderRow.holds Tryz.pinned (OpenSpec.ofChange baseOrderWrong)

/-- 'homesteadlaw13.BaseShows': WHATEVER THE INPUT: true; the input reads as it did. -/
def baseShowsSpec : ChangeSpec := { name := "baseShows", fn := fun _ => fun
  | [d1, d2, d3] => { results := [.lit (.bool true)], args := [d1, d2, d3] }
  | _ => none }
def baseShowsRow : OpenClaim := { program := "ytkaliolnijkadaagreatdoor", sum := "0d73b1b4a84fba11cdf6a332b8a39575cc51c93509d32db922b20d18f249419c", func := "homestead/homesteadlaw13.BaseShows", spec := "baseShows", inPlace := ["internal/bytealg.IndexByteString", "internal/bytealg.IndexString", "slices.overlaps[homestead/api.Line]", "slices.overlaps[homestead/api.Value]", "slices.overlaps[homestead/api.Dot]"], unfollowed := true, recurses := true, named := ["unicode/utf8.first", "unicode/utf8.acceptRanges", "internal/bytealg.MaxLen"], loops := true, plainKeys := false, apart := false, laid := [("unicode/utf8.acceptRanges", laid_unicode_utf8_acceptRanges), ("unicode/utf8.first", laid_unicode_utf8_first)] }
def BaseShowsSaid : Prop := baseShowsRow.holds Tryz.pinned (OpenSpec.ofChange baseShowsSpec)

/-- ITS FALSE NEIGHBOUR: 'it returns false'. Refute it at one input. -/
def baseShowsWrong : ChangeSpec := { name := "baseShows", fn := fun _ => fun
  | [d1, d2, d3] => { results := [.lit (.bool false)], args := [d1, d2, d3] }
  | _ => none }
def BaseShowsWrongFalsely : Prop := baseShowsRow.holds Tryz.pinned (OpenSpec.ofChange baseShowsWrong)

/-- 'homesteadlaw13.BaseWrote': WHATEVER THE INPUT: true; the input reads as it did. -/
def baseWroteSpec : ChangeSpec := { name := "baseWrote", fn := fun _ => fun
  | [d1, d2] => { results := [.lit (.bool true)], args := [d1, d2] }
  | _ => none }
def baseWroteRow : OpenClaim := { program := "ytkaliolnijkadaagreatdoor", sum := "0d73b1b4a84fba11cdf6a332b8a39575cc51c93509d32db922b20d18f249419c", func := "homestead/homesteadlaw13.BaseWrote", spec := "baseWrote", inPlace := ["slices.overlaps[homestead/api.Line]", "slices.overlaps[homestead/api.Value]", "slices.overlaps[homestead/api.Dot]", "internal/bytealg.IndexByteString", "internal/bytealg.IndexString"], unfollowed := true, recurses := true, named := ["unicode/utf8.first", "unicode/utf8.acceptRanges", "internal/bytealg.MaxLen"], plainKeys := false, apart := false, laid := [("unicode/utf8.acceptRanges", laid_unicode_utf8_acceptRanges), ("unicode/utf8.first", laid_unicode_utf8_first)] }
def BaseWroteSaid : Prop := baseWroteRow.holds Tryz.pinned (OpenSpec.ofChange baseWroteSpec)

/-- ITS FALSE NEIGHBOUR: 'it returns false'. Refute it at one input. -/
def baseWroteWrong : ChangeSpec := { name := "baseWrote", fn := fun _ => fun
  | [d1, d2] => { results := [.lit (.bool false)], args := [d1, d2] }
  | _ => none }
def BaseWroteWrongFalsely : Prop := baseWroteRow.holds Tryz.pinned (OpenSpec.ofChange baseWroteWrong)

/- THE SECOND FORM. 'bulk': how many values and letters a reading holds, each counted each time it is reached (what is shared counts as often as it is met; a slice's spare places count too). A statement '..UptoSaid' is the law's where the arguments, and the package variables that the reading takes, are together of bulk at most 1048576: NARROWER than '..Said'. Prove '..Said' where nothing that the law and all that it calls make is longer than what came in: it says more and counts as full. Else prove '..UptoSaid'. A law counts once. -/
mutual
def uptoBulk {H : Type} : DataW H → Nat
  | .lit (.string bytes) => bytes.length + 1
  | .lit _ => 1
  | .nil => 1
  | .ptr d => uptoBulk d + 1
  | .slice elems spare => uptoBulkAll elems + uptoBulkAll spare + 1
  | .agg parts => uptoBulkAll parts + 1
  | .iface _ d => uptoBulk d + 1
  | .map entries => uptoBulkEntries entries + 1
  | .held _ => 1
def uptoBulkAll {H : Type} : List (DataW H) → Nat
  | [] => 0
  | d :: r => uptoBulk d + uptoBulkAll r
def uptoBulkEntries {H : Type} : List (Lit × DataW H) → Nat
  | [] => 0
  | x :: r => uptoBulkEntry x + uptoBulkEntries r
def uptoBulkEntry {H : Type} : Lit × DataW H → Nat
  | (.string bytes, d) => bytes.length + uptoBulk d + 1
  | (_, d) => uptoBulk d + 1
 end
def uptoSmall : (H : Type) → List (DataW H) → Bool := fun _ ds => decide (uptoBulkAll ds ≤ 1048576)
def OpenSpec.upto (s : _root_.Go.ChangeSpec) : _root_.Go.OpenSpec := { _root_.Go.OpenSpec.ofChange s with cond := some uptoSmall }

/-- 'homesteadlaw13.BaseRight', WHERE WHAT IT READS IS OF BULK AT MOST 1048576: true; the input reads as it did. -/
def baseRightUptoRow : OpenClaim := { program := "ytkaliolnijkadaagreatdoor", sum := "0d73b1b4a84fba11cdf6a332b8a39575cc51c93509d32db922b20d18f249419c", func := "homestead/homesteadlaw13.BaseRight", spec := "baseRight", inPlace := ["slices.overlaps[homestead/api.Line]", "slices.overlaps[homestead/api.Value]", "slices.overlaps[homestead/api.Dot]", "internal/bytealg.IndexByteString", "internal/bytealg.IndexString"], unfollowed := true, recurses := true, named := ["unicode/utf8.first", "unicode/utf8.acceptRanges", "internal/bytealg.MaxLen"], loops := true, plainKeys := false, apart := false, laid := [("unicode/utf8.acceptRanges", laid_unicode_utf8_acceptRanges), ("unicode/utf8.first", laid_unicode_utf8_first)], narrowed := true }
def BaseRightUptoSaid : Prop := baseRightUptoRow.holds Tryz.pinned (OpenSpec.upto baseRightSpec)

/-- 'homesteadlaw13.BaseTurns', WHERE WHAT IT READS IS OF BULK AT MOST 1048576: true; the input reads as it did. -/
def baseTurnsUptoRow : OpenClaim := { program := "ytkaliolnijkadaagreatdoor", sum := "0d73b1b4a84fba11cdf6a332b8a39575cc51c93509d32db922b20d18f249419c", func := "homestead/homesteadlaw13.BaseTurns", spec := "baseTurns", inPlace := ["slices.overlaps[homestead/api.Line]", "slices.overlaps[homestead/api.Value]", "slices.overlaps[homestead/api.Dot]", "internal/bytealg.IndexByteString", "internal/bytealg.IndexString"], unfollowed := true, recurses := true, named := ["unicode/utf8.first", "unicode/utf8.acceptRanges", "internal/bytealg.MaxLen"], plainKeys := false, apart := false, laid := [("unicode/utf8.acceptRanges", laid_unicode_utf8_acceptRanges), ("unicode/utf8.first", laid_unicode_utf8_first)], narrowed := true }
def BaseTurnsUptoSaid : Prop := baseTurnsUptoRow.holds Tryz.pinned (OpenSpec.upto baseTurnsSpec)

/-- 'homesteadlaw13.BasePut', WHERE WHAT IT READS IS OF BULK AT MOST 1048576: true; the input reads as it did. -/
def basePutUptoRow : OpenClaim := { program := "ytkaliolnijkadaagreatdoor", sum := "0d73b1b4a84fba11cdf6a332b8a39575cc51c93509d32db922b20d18f249419c", func := "homestead/homesteadlaw13.BasePut", spec := "basePut", inPlace := ["internal/bytealg.IndexByteString", "internal/bytealg.IndexString", "slices.overlaps[homestead/api.Line]", "slices.overlaps[homestead/api.Value]", "slices.overlaps[homestead/api.Dot]"], unfollowed := true, recurses := true, named := ["unicode/utf8.first", "unicode/utf8.acceptRanges", "internal/bytealg.MaxLen"], loops := true, plainKeys := false, apart := false, laid := [("unicode/utf8.acceptRanges", laid_unicode_utf8_acceptRanges), ("unicode/utf8.first", laid_unicode_utf8_first)], narrowed := true }
def BasePutUptoSaid : Prop := basePutUptoRow.holds Tryz.pinned (OpenSpec.upto basePutSpec)

/-- 'homesteadlaw13.BaseDrop', WHERE WHAT IT READS IS OF BULK AT MOST 1048576: true; the input reads as it did. -/
def baseDropUptoRow : OpenClaim := { program := "ytkaliolnijkadaagreatdoor", sum := "0d73b1b4a84fba11cdf6a332b8a39575cc51c93509d32db922b20d18f249419c", func := "homestead/homesteadlaw13.BaseDrop", spec := "baseDrop", inPlace := ["internal/bytealg.IndexByteString", "internal/bytealg.IndexString", "slices.overlaps[homestead/api.Line]", "slices.overlaps[homestead/api.Value]", "slices.overlaps[homestead/api.Dot]"], unfollowed := true, recurses := true, named := ["unicode/utf8.first", "unicode/utf8.acceptRanges", "internal/bytealg.MaxLen"], loops := true, plainKeys := false, apart := false, laid := [("unicode/utf8.acceptRanges", laid_unicode_utf8_acceptRanges), ("unicode/utf8.first", laid_unicode_utf8_first)], narrowed := true }
def BaseDropUptoSaid : Prop := baseDropUptoRow.holds Tryz.pinned (OpenSpec.upto baseDropSpec)

/-- 'homesteadlaw13.BaseOrder', WHERE WHAT IT READS IS OF BULK AT MOST 1048576: true; the input reads as it did. -/
def baseOrderUptoRow : OpenClaim := { program := "ytkaliolnijkadaagreatdoor", sum := "0d73b1b4a84fba11cdf6a332b8a39575cc51c93509d32db922b20d18f249419c", func := "homestead/homesteadlaw13.BaseOrder", spec := "baseOrder", inPlace := ["internal/bytealg.IndexByteString", "internal/bytealg.IndexString", "slices.overlaps[homestead/api.Line]", "slices.overlaps[homestead/api.Value]", "slices.overlaps[homestead/api.Dot]"], unfollowed := true, recurses := true, named := ["unicode/utf8.first", "unicode/utf8.acceptRanges", "internal/bytealg.MaxLen"], loops := true, plainKeys := false, apart := false, laid := [("unicode/utf8.acceptRanges", laid_unicode_utf8_acceptRanges), ("unicode/utf8.first", laid_unicode_utf8_first)], narrowed := true }
def BaseOrderUptoSaid : Prop := baseOrderUptoRow.holds Tryz.pinned (OpenSpec.upto baseOrderSpec)

/-- 'homesteadlaw13.BaseShows', WHERE WHAT IT READS IS OF BULK AT MOST 1048576: true; the input reads as it did. -/
def baseShowsUptoRow : OpenClaim := { program := "ytkaliolnijkadaagreatdoor", sum := "0d73b1b4a84fba11cdf6a332b8a39575cc51c93509d32db922b20d18f249419c", func := "homestead/homesteadlaw13.BaseShows", spec := "baseShows", inPlace := ["internal/bytealg.IndexByteString", "internal/bytealg.IndexString", "slices.overlaps[homestead/api.Line]", "slices.overlaps[homestead/api.Value]", "slices.overlaps[homestead/api.Dot]"], unfollowed := true, recurses := true, named := ["unicode/utf8.first", "unicode/utf8.acceptRanges", "internal/bytealg.MaxLen"], loops := true, plainKeys := false, apart := false, laid := [("unicode/utf8.acceptRanges", laid_unicode_utf8_acceptRanges), ("unicode/utf8.first", laid_unicode_utf8_first)], narrowed := true }
def BaseShowsUptoSaid : Prop := baseShowsUptoRow.holds Tryz.pinned (OpenSpec.upto baseShowsSpec)

/-- 'homesteadlaw13.BaseWrote', WHERE WHAT IT READS IS OF BULK AT MOST 1048576: true; the input reads as it did. -/
def baseWroteUptoRow : OpenClaim := { program := "ytkaliolnijkadaagreatdoor", sum := "0d73b1b4a84fba11cdf6a332b8a39575cc51c93509d32db922b20d18f249419c", func := "homestead/homesteadlaw13.BaseWrote", spec := "baseWrote", inPlace := ["slices.overlaps[homestead/api.Line]", "slices.overlaps[homestead/api.Value]", "slices.overlaps[homestead/api.Dot]", "internal/bytealg.IndexByteString", "internal/bytealg.IndexString"], unfollowed := true, recurses := true, named := ["unicode/utf8.first", "unicode/utf8.acceptRanges", "internal/bytealg.MaxLen"], plainKeys := false, apart := false, laid := [("unicode/utf8.acceptRanges", laid_unicode_utf8_acceptRanges), ("unicode/utf8.first", laid_unicode_utf8_first)], narrowed := true }
def BaseWroteUptoSaid : Prop := baseWroteUptoRow.holds Tryz.pinned (OpenSpec.upto baseWroteSpec)

end Rows
end Go.Proofs.YtkaliolnijkadaaGreatDoor
