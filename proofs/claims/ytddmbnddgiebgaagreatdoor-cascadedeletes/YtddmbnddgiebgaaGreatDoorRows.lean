/-
  NARROWER THAN 'FOR EVERY INPUT', by the rows' own cells (each row's printed sentence says how): CascadeDeletes: loops, laid · CascadeClosed: loops, laid · CascadeGone: loops, laid · CascadeOthers: loops, laid · CascadeMay: loops, laid · CascadeOrder: loops, laid.
  DERIVED. THE GIVEN ROWS OF THIS SEAT. 6 by the template 'for every input the law returns true; each argument reads behind the call as it read before'; 0 by the template 'total and deterministic' (their statements: YtddmbnddgiebgaaGreatDoorTotals.lean).
  GIVEN WITH THE SEED: the statements are not yours to turn. If you find one false, say at which input.
  Laid BY PROGRAM, IN A SANDBOX (cutbox-rows.mjs): the forced cells as the released guide's own fill.sh prints them over the translation be956b086775fa41… (all of the seat's roots in one cut). By AI agents, Wed Nov 11 2026. No macro, syntax, notation, axiom, sorry.
-/
import Derived.Test.YtddmbnddgiebgaaGreatDoorChecked
import GoSem.PinnedTables
import GoSem.Claim
import GoSem.ClaimJoined
import GoSem.ClaimMapViews
import Derived.JoinedTies
import Derived.KernelRfl
namespace Go.Proofs.YtddmbnddgiebgaaGreatDoor
/- THE CELL 'sum', in the pinned program and in every row, IS THE sha256 OF THE DUMP (.gsa) THAT YtddmbnddgiebgaaGreatDoorProg.lean LOADS. Nothing in Lean hashes anything: it is a label: what it is worth is what the hold of that sum in a sandbox is worth. -/
noncomputable def Tryz.pinned : Pinned := { name := "ytddmbnddgiebgaagreatdoor", sum := "be956b086775fa416b97a138cf61a13d46b4dc2e5cc477a412e3cbfc35e90ca4", checked := Tryz.checked }
namespace Rows
def none {H : Type} : Left H := { results := [], args := [] }

/- WHAT THE LISTED PACKAGE-LEVEL VARIABLES READ AS WHEN THE CALL BEGINS. Each datum BY PROGRAM (the guide's laid-datum.mjs) off the statement by which the dump's own 'gosem.cut.vars' lays the variable. In a bare row this is a premise. The card (YtddmbnddgiebgaaGreatDoorCards.lean) ties it to the program's text. -/
def laid_unicode_utf8_acceptRanges {H : Type} : DataW H := .agg [.agg [.lit (.int .u8 128), .lit (.int .u8 191)], .agg [.lit (.int .u8 160), .lit (.int .u8 191)], .agg [.lit (.int .u8 128), .lit (.int .u8 159)], .agg [.lit (.int .u8 144), .lit (.int .u8 191)], .agg [.lit (.int .u8 128), .lit (.int .u8 143)], .agg [.lit (.int .u8 0), .lit (.int .u8 0)], .agg [.lit (.int .u8 0), .lit (.int .u8 0)], .agg [.lit (.int .u8 0), .lit (.int .u8 0)], .agg [.lit (.int .u8 0), .lit (.int .u8 0)], .agg [.lit (.int .u8 0), .lit (.int .u8 0)], .agg [.lit (.int .u8 0), .lit (.int .u8 0)], .agg [.lit (.int .u8 0), .lit (.int .u8 0)], .agg [.lit (.int .u8 0), .lit (.int .u8 0)], .agg [.lit (.int .u8 0), .lit (.int .u8 0)], .agg [.lit (.int .u8 0), .lit (.int .u8 0)], .agg [.lit (.int .u8 0), .lit (.int .u8 0)]]
/-- One of Go's own tables, pinned by name: the form's constant. -/
def laid_unicode_utf8_first : DataW Unit := Go.Pinned.utf8First

/-- 'homesteadlaw15.CascadeDeletes': WHATEVER THE INPUT: true; the input reads as it did. -/
def cascadeDeletesSpec : ChangeSpec := { name := "cascadeDeletes", fn := fun _ => fun
  | [d1, d2, d3, d4] => { results := [.lit (.bool true)], args := [d1, d2, d3, d4] }
  | _ => none }
def cascadeDeletesRow : OpenClaim := { program := "ytddmbnddgiebgaagreatdoor", sum := "be956b086775fa416b97a138cf61a13d46b4dc2e5cc477a412e3cbfc35e90ca4", func := "homestead/homesteadlaw15.CascadeDeletes", spec := "cascadeDeletes", inPlace := ["slices.overlaps[homestead/api.Line]", "internal/bytealg.IndexByteString", "internal/bytealg.IndexString", "slices.overlaps[homestead/api.Value]", "slices.overlaps[homestead/api.Dot]"], unfollowed := true, recurses := true, named := ["unicode/utf8.first", "unicode/utf8.acceptRanges", "internal/bytealg.MaxLen"], loops := true, plainKeys := false, apart := false, laid := [("unicode/utf8.acceptRanges", laid_unicode_utf8_acceptRanges), ("unicode/utf8.first", laid_unicode_utf8_first)] }
def CascadeDeletesSaid : Prop := cascadeDeletesRow.holds Tryz.pinned (OpenSpec.ofChange cascadeDeletesSpec)

/-- ITS FALSE NEIGHBOUR: 'it returns false'. Refute it at one input. -/
def cascadeDeletesWrong : ChangeSpec := { name := "cascadeDeletes", fn := fun _ => fun
  | [d1, d2, d3, d4] => { results := [.lit (.bool false)], args := [d1, d2, d3, d4] }
  | _ => none }
def CascadeDeletesWrongFalsely : Prop := cascadeDeletesRow.holds Tryz.pinned (OpenSpec.ofChange cascadeDeletesWrong)

/-- 'homesteadlaw15.CascadeClosed': WHATEVER THE INPUT: true; the input reads as it did. -/
def cascadeClosedSpec : ChangeSpec := { name := "cascadeClosed", fn := fun _ => fun
  | [d1, d2, d3] => { results := [.lit (.bool true)], args := [d1, d2, d3] }
  | _ => none }
def cascadeClosedRow : OpenClaim := { program := "ytddmbnddgiebgaagreatdoor", sum := "be956b086775fa416b97a138cf61a13d46b4dc2e5cc477a412e3cbfc35e90ca4", func := "homestead/homesteadlaw15.CascadeClosed", spec := "cascadeClosed", inPlace := ["internal/bytealg.IndexByteString", "internal/bytealg.IndexString", "slices.overlaps[homestead/api.Line]", "slices.overlaps[homestead/api.Value]", "slices.overlaps[homestead/api.Dot]"], unfollowed := true, recurses := true, named := ["unicode/utf8.first", "unicode/utf8.acceptRanges", "internal/bytealg.MaxLen"], loops := true, plainKeys := false, apart := false, laid := [("unicode/utf8.acceptRanges", laid_unicode_utf8_acceptRanges), ("unicode/utf8.first", laid_unicode_utf8_first)] }
def CascadeClosedSaid : Prop := cascadeClosedRow.holds Tryz.pinned (OpenSpec.ofChange cascadeClosedSpec)

/-- ITS FALSE NEIGHBOUR: 'it returns false'. Refute it at one input. -/
def cascadeClosedWrong : ChangeSpec := { name := "cascadeClosed", fn := fun _ => fun
  | [d1, d2, d3] => { results := [.lit (.bool false)], args := [d1, d2, d3] }
  | _ => none }
def CascadeClosedWrongFalsely : Prop := cascadeClosedRow.holds Tryz.pinned (OpenSpec.ofChange cascadeClosedWrong)

/-- 'homesteadlaw15.CascadeGone': WHATEVER THE INPUT: true; the input reads as it did. -/
def cascadeGoneSpec : ChangeSpec := { name := "cascadeGone", fn := fun _ => fun
  | [d1, d2, d3, d4] => { results := [.lit (.bool true)], args := [d1, d2, d3, d4] }
  | _ => none }
def cascadeGoneRow : OpenClaim := { program := "ytddmbnddgiebgaagreatdoor", sum := "be956b086775fa416b97a138cf61a13d46b4dc2e5cc477a412e3cbfc35e90ca4", func := "homestead/homesteadlaw15.CascadeGone", spec := "cascadeGone", inPlace := ["slices.overlaps[homestead/api.Line]", "internal/bytealg.IndexByteString", "internal/bytealg.IndexString", "slices.overlaps[homestead/api.Value]", "slices.overlaps[homestead/api.Dot]"], unfollowed := true, recurses := true, named := ["unicode/utf8.first", "unicode/utf8.acceptRanges", "internal/bytealg.MaxLen"], loops := true, plainKeys := false, apart := false, laid := [("unicode/utf8.acceptRanges", laid_unicode_utf8_acceptRanges), ("unicode/utf8.first", laid_unicode_utf8_first)] }
def CascadeGoneSaid : Prop := cascadeGoneRow.holds Tryz.pinned (OpenSpec.ofChange cascadeGoneSpec)

/-- ITS FALSE NEIGHBOUR: 'it returns false'. Refute it at one input. -/
def cascadeGoneWrong : ChangeSpec := { name := "cascadeGone", fn := fun _ => fun
  | [d1, d2, d3, d4] => { results := [.lit (.bool false)], args := [d1, d2, d3, d4] }
  | _ => none }
def CascadeGoneWrongFalsely : Prop := cascadeGoneRow.holds Tryz.pinned (OpenSpec.ofChange cascadeGoneWrong)

/-- 'homesteadlaw15.CascadeOthers': WHATEVER THE INPUT: true; the input reads as it did. -/
def cascadeOthersSpec : ChangeSpec := { name := "cascadeOthers", fn := fun _ => fun
  | [d1, d2, d3, d4] => { results := [.lit (.bool true)], args := [d1, d2, d3, d4] }
  | _ => none }
def cascadeOthersRow : OpenClaim := { program := "ytddmbnddgiebgaagreatdoor", sum := "be956b086775fa416b97a138cf61a13d46b4dc2e5cc477a412e3cbfc35e90ca4", func := "homestead/homesteadlaw15.CascadeOthers", spec := "cascadeOthers", inPlace := ["slices.overlaps[homestead/api.Line]", "internal/bytealg.IndexByteString", "internal/bytealg.IndexString", "slices.overlaps[homestead/api.Value]", "slices.overlaps[homestead/api.Dot]"], unfollowed := true, recurses := true, named := ["unicode/utf8.first", "unicode/utf8.acceptRanges", "internal/bytealg.MaxLen"], loops := true, plainKeys := false, apart := false, laid := [("unicode/utf8.acceptRanges", laid_unicode_utf8_acceptRanges), ("unicode/utf8.first", laid_unicode_utf8_first)] }
def CascadeOthersSaid : Prop := cascadeOthersRow.holds Tryz.pinned (OpenSpec.ofChange cascadeOthersSpec)

/-- ITS FALSE NEIGHBOUR: 'it returns false'. Refute it at one input. -/
def cascadeOthersWrong : ChangeSpec := { name := "cascadeOthers", fn := fun _ => fun
  | [d1, d2, d3, d4] => { results := [.lit (.bool false)], args := [d1, d2, d3, d4] }
  | _ => none }
def CascadeOthersWrongFalsely : Prop := cascadeOthersRow.holds Tryz.pinned (OpenSpec.ofChange cascadeOthersWrong)

/-- 'homesteadlaw15.CascadeMay': WHATEVER THE INPUT: true; the input reads as it did. -/
def cascadeMaySpec : ChangeSpec := { name := "cascadeMay", fn := fun _ => fun
  | [d1, d2, d3] => { results := [.lit (.bool true)], args := [d1, d2, d3] }
  | _ => none }
def cascadeMayRow : OpenClaim := { program := "ytddmbnddgiebgaagreatdoor", sum := "be956b086775fa416b97a138cf61a13d46b4dc2e5cc477a412e3cbfc35e90ca4", func := "homestead/homesteadlaw15.CascadeMay", spec := "cascadeMay", inPlace := ["internal/bytealg.IndexByteString", "internal/bytealg.IndexString", "slices.overlaps[homestead/api.Line]", "slices.overlaps[homestead/api.Value]", "slices.overlaps[homestead/api.Dot]"], unfollowed := true, recurses := true, named := ["unicode/utf8.first", "unicode/utf8.acceptRanges", "internal/bytealg.MaxLen"], loops := true, plainKeys := false, apart := false, laid := [("unicode/utf8.acceptRanges", laid_unicode_utf8_acceptRanges), ("unicode/utf8.first", laid_unicode_utf8_first)] }
def CascadeMaySaid : Prop := cascadeMayRow.holds Tryz.pinned (OpenSpec.ofChange cascadeMaySpec)

/-- ITS FALSE NEIGHBOUR: 'it returns false'. Refute it at one input. -/
def cascadeMayWrong : ChangeSpec := { name := "cascadeMay", fn := fun _ => fun
  | [d1, d2, d3] => { results := [.lit (.bool false)], args := [d1, d2, d3] }
  | _ => none }
def CascadeMayWrongFalsely : Prop := cascadeMayRow.holds Tryz.pinned (OpenSpec.ofChange cascadeMayWrong)

/-- 'homesteadlaw15.CascadeOrder': WHATEVER THE INPUT: true; the input reads as it did. -/
def cascadeOrderSpec : ChangeSpec := { name := "cascadeOrder", fn := fun _ => fun
  | [d1, d2, d3, d4] => { results := [.lit (.bool true)], args := [d1, d2, d3, d4] }
  | _ => none }
def cascadeOrderRow : OpenClaim := { program := "ytddmbnddgiebgaagreatdoor", sum := "be956b086775fa416b97a138cf61a13d46b4dc2e5cc477a412e3cbfc35e90ca4", func := "homestead/homesteadlaw15.CascadeOrder", spec := "cascadeOrder", inPlace := ["internal/bytealg.IndexByteString", "internal/bytealg.IndexString", "slices.overlaps[homestead/api.Line]", "slices.overlaps[homestead/api.Value]", "slices.overlaps[homestead/api.Dot]"], unfollowed := true, recurses := true, named := ["unicode/utf8.first", "unicode/utf8.acceptRanges", "internal/bytealg.MaxLen"], loops := true, plainKeys := false, apart := false, laid := [("unicode/utf8.acceptRanges", laid_unicode_utf8_acceptRanges), ("unicode/utf8.first", laid_unicode_utf8_first)] }
def CascadeOrderSaid : Prop := cascadeOrderRow.holds Tryz.pinned (OpenSpec.ofChange cascadeOrderSpec)

/-- ITS FALSE NEIGHBOUR: 'it returns false'. Refute it at one input. -/
def cascadeOrderWrong : ChangeSpec := { name := "cascadeOrder", fn := fun _ => fun
  | [d1, d2, d3, d4] => { results := [.lit (.bool false)], args := [d1, d2, d3, d4] }
  | _ => none }
def CascadeOrderWrongFalsely : Prop := cascadeOrderRow.holds Tryz.pinned (OpenSpec.ofChange cascadeOrderWrong)

/- THE SECOND FORM. 'bulk': how many values and letters a reading holds, each counted each time it is reached (what is shared counts as often as it is met; a slice's spare places count too). A statement '..UptoSaid' is the law's where the arguments, and the package variables that the reading takes, are together of bulk at most 1048576: NARROWER than '..Said'. Prove '..Said' where nothing that the law and all that it calls make is longer than what came in: it says more and counts as full. Else prove '..UptoSaid'. A law counts once. -/
mutual
def uptoBulk {H : Type} : DataW H → Nat
  | .lit (.string bytes) => bytes.length + 1
  | .lit _ => 1
  | .nil => 1
  | .ptr d => uptoBulk d + 1
  | .slice elems spare => uptoBulkAll elems + uptoBulkAll spare + 1
  | .agg parts => uptoBulkAll parts + 1
  | .iface _ d => uptoBulk d + 1
  | .map entries => uptoBulkEntries entries + 1
  | .held _ => 1
def uptoBulkAll {H : Type} : List (DataW H) → Nat
  | [] => 0
  | d :: r => uptoBulk d + uptoBulkAll r
def uptoBulkEntries {H : Type} : List (Lit × DataW H) → Nat
  | [] => 0
  | x :: r => uptoBulkEntry x + uptoBulkEntries r
def uptoBulkEntry {H : Type} : Lit × DataW H → Nat
  | (.string bytes, d) => bytes.length + uptoBulk d + 1
  | (_, d) => uptoBulk d + 1
 end
def uptoSmall : (H : Type) → List (DataW H) → Bool := fun _ ds => decide (uptoBulkAll ds ≤ 1048576)
def OpenSpec.upto (s : _root_.Go.ChangeSpec) : _root_.Go.OpenSpec := { _root_.Go.OpenSpec.ofChange s with cond := some uptoSmall }

/-- 'homesteadlaw15.CascadeDeletes', WHERE WHAT IT READS IS OF BULK AT MOST 1048576: true; the input reads as it did. -/
def cascadeDeletesUptoRow : OpenClaim := { program := "ytddmbnddgiebgaagreatdoor", sum := "be956b086775fa416b97a138cf61a13d46b4dc2e5cc477a412e3cbfc35e90ca4", func := "homestead/homesteadlaw15.CascadeDeletes", spec := "cascadeDeletes", inPlace := ["slices.overlaps[homestead/api.Line]", "internal/bytealg.IndexByteString", "internal/bytealg.IndexString", "slices.overlaps[homestead/api.Value]", "slices.overlaps[homestead/api.Dot]"], unfollowed := true, recurses := true, named := ["unicode/utf8.first", "unicode/utf8.acceptRanges", "internal/bytealg.MaxLen"], loops := true, plainKeys := false, apart := false, laid := [("unicode/utf8.acceptRanges", laid_unicode_utf8_acceptRanges), ("unicode/utf8.first", laid_unicode_utf8_first)], narrowed := true }
def CascadeDeletesUptoSaid : Prop := cascadeDeletesUptoRow.holds Tryz.pinned (OpenSpec.upto cascadeDeletesSpec)

/-- 'homesteadlaw15.CascadeClosed', WHERE WHAT IT READS IS OF BULK AT MOST 1048576: true; the input reads as it did. -/
def cascadeClosedUptoRow : OpenClaim := { program := "ytddmbnddgiebgaagreatdoor", sum := "be956b086775fa416b97a138cf61a13d46b4dc2e5cc477a412e3cbfc35e90ca4", func := "homestead/homesteadlaw15.CascadeClosed", spec := "cascadeClosed", inPlace := ["internal/bytealg.IndexByteString", "internal/bytealg.IndexString", "slices.overlaps[homestead/api.Line]", "slices.overlaps[homestead/api.Value]", "slices.overlaps[homestead/api.Dot]"], unfollowed := true, recurses := true, named := ["unicode/utf8.first", "unicode/utf8.acceptRanges", "internal/bytealg.MaxLen"], loops := true, plainKeys := false, apart := false, laid := [("unicode/utf8.acceptRanges", laid_unicode_utf8_acceptRanges), ("unicode/utf8.first", laid_unicode_utf8_first)], narrowed := true }
def CascadeClosedUptoSaid : Prop := cascadeClosedUptoRow.holds Tryz.pinned (OpenSpec.upto cascadeClosedSpec)

/-- 'homesteadlaw15.CascadeGone', WHERE WHAT IT READS IS OF BULK AT MOST 1048576: true; the input reads as it did. -/
def cascadeGoneUptoRow : OpenClaim := { program := "ytddmbnddgiebgaagreatdoor", sum := "be956b086775fa416b97a138cf61a13d46b4dc2e5cc477a412e3cbfc35e90ca4", func := "homestead/homesteadlaw15.CascadeGone", spec := "cascadeGone", inPlace := ["slices.overlaps[homestead/api.Line]", "internal/bytealg.IndexByteString", "internal/bytealg.IndexString", "slices.overlaps[homestead/api.Value]", "slices.overlaps[homestead/api.Dot]"], unfollowed := true, recurses := true, named := ["unicode/utf8.first", "unicode/utf8.acceptRanges", "internal/bytealg.MaxLen"], loops := true, plainKeys := false, apart := false, laid := [("unicode/utf8.acceptRanges", laid_unicode_utf8_acceptRanges), ("unicode/utf8.first", laid_unicode_utf8_first)], narrowed := true }
def CascadeGoneUptoSaid : Prop := cascadeGoneUptoRow.holds Tryz.pinned (OpenSpec.upto cascadeGoneSpec)

/-- 'homesteadlaw15.CascadeOthers', WHERE WHAT IT READS IS OF BULK AT MOST 1048576: true; the input reads as it did. -/
def cascadeOthersUptoRow : OpenClaim := { program := "ytddmbnddgiebgaagreatdoor", sum := "be956b086775fa416b97a138cf61a13d46b4dc2e5cc477a412e3cbfc35e90ca4", func := "homestead/homesteadlaw15.CascadeOthers", spec := "cascadeOthers", inPlace := ["slices.overlaps[homestead/api.Line]", "internal/bytealg.IndexByteString", "internal/bytealg.IndexString", "slices.overlaps[homestead/api.Value]", "slices.overlaps[homestead/api.Dot]"], unfollowed := true, recurses := true, named := ["unicode/utf8.first", "unicode/utf8.acceptRanges", "internal/bytealg.MaxLen"], loops := true, plainKeys := false, apart := false, laid := [("unicode/utf8.acceptRanges", laid_unicode_utf8_acceptRanges), ("unicode/utf8.first", laid_unicode_utf8_first)], narrowed := true }
def CascadeOthersUptoSaid : Prop := cascadeOthersUptoRow.holds Tryz.pinned (OpenSpec.upto cascadeOthersSpec)

/-- 'homesteadlaw15.CascadeMay', WHERE WHAT IT READS IS OF BULK AT MOST 1048576: true; the input reads as it did. -/
def cascadeMayUptoRow : OpenClaim := { program := "ytddmbnddgiebgaagreatdoor", sum := "be956b086775fa416b97a138cf61a13d46b4dc2e5cc477a412e3cbfc35e90ca4", func := "homestead/homesteadlaw15.CascadeMay", spec := "cascadeMay", inPlace := ["internal/bytealg.IndexByteString", "internal/bytealg.IndexString", "slices.overlaps[homestead/api.Line]", "slices.overlaps[homestead/api.Value]", "slices.overlaps[homestead/api.Dot]"], unfollowed := true, recurses := true, named := ["unicode/utf8.first", "unicode/utf8.acceptRanges", "internal/bytealg.MaxLen"], loops := true, plainKeys := false, apart := false, laid := [("unicode/utf8.acceptRanges", laid_unicode_utf8_acceptRanges), ("unicode/utf8.first", laid_unicode_utf8_first)], narrowed := true }
def CascadeMayUptoSaid : Prop := cascadeMayUptoRow.holds Tryz.pinned (OpenSpec.upto cascadeMaySpec)

/-- 'homesteadlaw15.CascadeOrder', WHERE WHAT IT READS IS OF BULK AT MOST 1048576: true; the input reads as it did. -/
def cascadeOrderUptoRow : OpenClaim := { program := "ytddmbnddgiebgaagreatdoor", sum := "be956b086775fa416b97a138cf61a13d46b4dc2e5cc477a412e3cbfc35e90ca4", func := "homestead/homesteadlaw15.CascadeOrder", spec := "cascadeOrder", inPlace := ["internal/bytealg.IndexByteString", "internal/bytealg.IndexString", "slices.overlaps[homestead/api.Line]", "slices.overlaps[homestead/api.Value]", "slices.overlaps[homestead/api.Dot]"], unfollowed := true, recurses := true, named := ["unicode/utf8.first", "unicode/utf8.acceptRanges", "internal/bytealg.MaxLen"], loops := true, plainKeys := false, apart := false, laid := [("unicode/utf8.acceptRanges", laid_unicode_utf8_acceptRanges), ("unicode/utf8.first", laid_unicode_utf8_first)], narrowed := true }
def CascadeOrderUptoSaid : Prop := cascadeOrderUptoRow.holds Tryz.pinned (OpenSpec.upto cascadeOrderSpec)

end Rows
end Go.Proofs.YtddmbnddgiebgaaGreatDoor
