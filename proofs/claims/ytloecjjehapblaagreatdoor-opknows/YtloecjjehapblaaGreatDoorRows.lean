/-
  NARROWER THAN 'FOR EVERY INPUT', by the rows' own cells (each row's printed sentence says how): WhyNone: loops, laid · OpGood: loops, laid · OpSteps: loops, laid · OpOwn: loops, laid · OpApart: loops, laid · OpKnows: laid.
  DERIVED. THE GIVEN ROWS OF THIS SEAT. 6 by the template 'for every input the law returns true; each argument reads behind the call as it read before'; 0 by the template 'total and deterministic' (their statements: YtloecjjehapblaaGreatDoorTotals.lean).
  GIVEN WITH THE SEED: the statements are not yours to turn. If you find one false, say at which input.
  Laid BY PROGRAM, IN A SANDBOX (cutbox-rows.mjs): the forced cells as the released guide's own fill.sh prints them over the translation 6381b0951fbb9c7e… (all of the seat's roots in one cut). By AI agents, Wed Nov 11 2026. No macro, syntax, notation, axiom, sorry.
-/
import Derived.Test.YtloecjjehapblaaGreatDoorChecked
import GoSem.PinnedTables
import GoSem.Claim
import GoSem.ClaimJoined
import GoSem.ClaimMapViews
import Derived.JoinedTies
import Derived.KernelRfl
namespace Go.Proofs.YtloecjjehapblaaGreatDoor
/- THE CELL 'sum', in the pinned program and in every row, IS THE sha256 OF THE DUMP (.gsa) THAT YtloecjjehapblaaGreatDoorProg.lean LOADS. Nothing in Lean hashes anything: it is a label: what it is worth is what the hold of that sum in a sandbox is worth. -/
noncomputable def Tryz.pinned : Pinned := { name := "ytloecjjehapblaagreatdoor", sum := "6381b0951fbb9c7ea8345ee18860a737bafaf8e609643141d6b064833ae841b2", checked := Tryz.checked }
namespace Rows
def none {H : Type} : Left H := { results := [], args := [] }

/- WHAT THE LISTED PACKAGE-LEVEL VARIABLES READ AS WHEN THE CALL BEGINS. Each datum BY PROGRAM (the guide's laid-datum.mjs) off the statement by which the dump's own 'gosem.cut.vars' lays the variable. In a bare row this is a premise. The card (YtloecjjehapblaaGreatDoorCards.lean) ties it to the program's text. -/
def laid_unicode_utf8_acceptRanges {H : Type} : DataW H := .agg [.agg [.lit (.int .u8 128), .lit (.int .u8 191)], .agg [.lit (.int .u8 160), .lit (.int .u8 191)], .agg [.lit (.int .u8 128), .lit (.int .u8 159)], .agg [.lit (.int .u8 144), .lit (.int .u8 191)], .agg [.lit (.int .u8 128), .lit (.int .u8 143)], .agg [.lit (.int .u8 0), .lit (.int .u8 0)], .agg [.lit (.int .u8 0), .lit (.int .u8 0)], .agg [.lit (.int .u8 0), .lit (.int .u8 0)], .agg [.lit (.int .u8 0), .lit (.int .u8 0)], .agg [.lit (.int .u8 0), .lit (.int .u8 0)], .agg [.lit (.int .u8 0), .lit (.int .u8 0)], .agg [.lit (.int .u8 0), .lit (.int .u8 0)], .agg [.lit (.int .u8 0), .lit (.int .u8 0)], .agg [.lit (.int .u8 0), .lit (.int .u8 0)], .agg [.lit (.int .u8 0), .lit (.int .u8 0)], .agg [.lit (.int .u8 0), .lit (.int .u8 0)]]
/-- One of Go's own tables, pinned by name: the form's constant. -/
def laid_unicode_utf8_first : DataW Unit := Go.Pinned.utf8First

/-- 'homesteadlaw30.WhyNone': WHATEVER THE INPUT: true; the input reads as it did. -/
def whyNoneSpec : ChangeSpec := { name := "whyNone", fn := fun _ => fun
  | [d1, d2, d3, d4, d5, d6] => { results := [.lit (.bool true)], args := [d1, d2, d3, d4, d5, d6] }
  | _ => none }
def whyNoneRow : OpenClaim := { program := "ytloecjjehapblaagreatdoor", sum := "6381b0951fbb9c7ea8345ee18860a737bafaf8e609643141d6b064833ae841b2", func := "homestead/homesteadlaw30.WhyNone", spec := "whyNone", inPlace := ["internal/bytealg.IndexByteString", "internal/bytealg.IndexString", "slices.overlaps[homestead/api.Value]"], unfollowed := true, recurses := true, named := ["unicode/utf8.first", "unicode/utf8.acceptRanges", "internal/bytealg.MaxLen"], loops := true, plainKeys := false, apart := false, laid := [("unicode/utf8.acceptRanges", laid_unicode_utf8_acceptRanges), ("unicode/utf8.first", laid_unicode_utf8_first)] }
def WhyNoneSaid : Prop := whyNoneRow.holds Tryz.pinned (OpenSpec.ofChange whyNoneSpec)

/-- ITS FALSE NEIGHBOUR: 'it returns false'. Refute it at one input. -/
def whyNoneWrong : ChangeSpec := { name := "whyNone", fn := fun _ => fun
  | [d1, d2, d3, d4, d5, d6] => { results := [.lit (.bool false)], args := [d1, d2, d3, d4, d5, d6] }
  | _ => none }
def WhyNoneWrongFalsely : Prop := whyNoneRow.holds Tryz.pinned (OpenSpec.ofChange whyNoneWrong)

/-- 'homesteadlaw16.OpGood': WHATEVER THE INPUT: true; the input reads as it did. -/
def opGoodSpec : ChangeSpec := { name := "opGood", fn := fun _ => fun
  | [d1, d2, d3, d4, d5] => { results := [.lit (.bool true)], args := [d1, d2, d3, d4, d5] }
  | _ => none }
def opGoodRow : OpenClaim := { program := "ytloecjjehapblaagreatdoor", sum := "6381b0951fbb9c7ea8345ee18860a737bafaf8e609643141d6b064833ae841b2", func := "homestead/homesteadlaw16.OpGood", spec := "opGood", inPlace := ["internal/bytealg.IndexByteString", "internal/bytealg.IndexString", "slices.overlaps[homestead/api.Part]", "slices.overlaps[homestead/api.Line]", "slices.overlaps[homestead/api.Value]", "slices.overlaps[homestead/api.Dot]"], unfollowed := true, recurses := true, named := ["unicode/utf8.first", "unicode/utf8.acceptRanges", "internal/bytealg.MaxLen"], loops := true, plainKeys := false, apart := false, laid := [("unicode/utf8.acceptRanges", laid_unicode_utf8_acceptRanges), ("unicode/utf8.first", laid_unicode_utf8_first)] }
def OpGoodSaid : Prop := opGoodRow.holds Tryz.pinned (OpenSpec.ofChange opGoodSpec)

/-- ITS FALSE NEIGHBOUR: 'it returns false'. Refute it at one input. -/
def opGoodWrong : ChangeSpec := { name := "opGood", fn := fun _ => fun
  | [d1, d2, d3, d4, d5] => { results := [.lit (.bool false)], args := [d1, d2, d3, d4, d5] }
  | _ => none }
def OpGoodWrongFalsely : Prop := opGoodRow.holds Tryz.pinned (OpenSpec.ofChange opGoodWrong)

/-- 'homesteadlaw16.OpSteps': WHATEVER THE INPUT: true; the input reads as it did. -/
def opStepsSpec : ChangeSpec := { name := "opSteps", fn := fun _ => fun
  | [d1, d2, d3, d4, d5] => { results := [.lit (.bool true)], args := [d1, d2, d3, d4, d5] }
  | _ => none }
def opStepsRow : OpenClaim := { program := "ytloecjjehapblaagreatdoor", sum := "6381b0951fbb9c7ea8345ee18860a737bafaf8e609643141d6b064833ae841b2", func := "homestead/homesteadlaw16.OpSteps", spec := "opSteps", inPlace := ["internal/bytealg.IndexByteString", "internal/bytealg.IndexString", "slices.overlaps[homestead/api.Part]", "slices.overlaps[homestead/api.Line]", "slices.overlaps[homestead/api.Value]", "slices.overlaps[homestead/api.Dot]"], unfollowed := true, recurses := true, named := ["unicode/utf8.first", "unicode/utf8.acceptRanges", "internal/bytealg.MaxLen"], loops := true, plainKeys := false, apart := false, laid := [("unicode/utf8.acceptRanges", laid_unicode_utf8_acceptRanges), ("unicode/utf8.first", laid_unicode_utf8_first)] }
def OpStepsSaid : Prop := opStepsRow.holds Tryz.pinned (OpenSpec.ofChange opStepsSpec)

/-- ITS FALSE NEIGHBOUR: 'it returns false'. Refute it at one input. -/
def opStepsWrong : ChangeSpec := { name := "opSteps", fn := fun _ => fun
  | [d1, d2, d3, d4, d5] => { results := [.lit (.bool false)], args := [d1, d2, d3, d4, d5] }
  | _ => none }
def OpStepsWrongFalsely : Prop := opStepsRow.holds Tryz.pinned (OpenSpec.ofChange opStepsWrong)

/-- 'homesteadlaw16.OpOwn': WHATEVER THE INPUT: true; the input reads as it did. -/
def opOwnSpec : ChangeSpec := { name := "opOwn", fn := fun _ => fun
  | [d1, d2, d3, d4, d5, d6, d7] => { results := [.lit (.bool true)], args := [d1, d2, d3, d4, d5, d6, d7] }
  | _ => none }
def opOwnRow : OpenClaim := { program := "ytloecjjehapblaagreatdoor", sum := "6381b0951fbb9c7ea8345ee18860a737bafaf8e609643141d6b064833ae841b2", func := "homestead/homesteadlaw16.OpOwn", spec := "opOwn", inPlace := ["internal/bytealg.IndexByteString", "internal/bytealg.IndexString", "slices.overlaps[homestead/api.Part]", "slices.overlaps[homestead/api.Line]", "slices.overlaps[homestead/api.Value]", "slices.overlaps[homestead/api.Dot]"], unfollowed := true, recurses := true, named := ["unicode/utf8.first", "unicode/utf8.acceptRanges", "internal/bytealg.MaxLen"], loops := true, plainKeys := false, apart := false, laid := [("unicode/utf8.acceptRanges", laid_unicode_utf8_acceptRanges), ("unicode/utf8.first", laid_unicode_utf8_first)] }
def OpOwnSaid : Prop := opOwnRow.holds Tryz.pinned (OpenSpec.ofChange opOwnSpec)

/-- ITS FALSE NEIGHBOUR: 'it returns false'. Refute it at one input. -/
def opOwnWrong : ChangeSpec := { name := "opOwn", fn := fun _ => fun
  | [d1, d2, d3, d4, d5, d6, d7] => { results := [.lit (.bool false)], args := [d1, d2, d3, d4, d5, d6, d7] }
  | _ => none }
def OpOwnWrongFalsely : Prop := opOwnRow.holds Tryz.pinned (OpenSpec.ofChange opOwnWrong)

/-- 'homesteadlaw16.OpApart': WHATEVER THE INPUT: true; the input reads as it did. -/
def opApartSpec : ChangeSpec := { name := "opApart", fn := fun _ => fun
  | [d1, d2, d3, d4, d5, d6, d7, d8] => { results := [.lit (.bool true)], args := [d1, d2, d3, d4, d5, d6, d7, d8] }
  | _ => none }
def opApartRow : OpenClaim := { program := "ytloecjjehapblaagreatdoor", sum := "6381b0951fbb9c7ea8345ee18860a737bafaf8e609643141d6b064833ae841b2", func := "homestead/homesteadlaw16.OpApart", spec := "opApart", inPlace := ["internal/bytealg.IndexByteString", "internal/bytealg.IndexString", "slices.overlaps[homestead/api.Part]", "slices.overlaps[homestead/api.Line]", "slices.overlaps[homestead/api.Value]", "slices.overlaps[homestead/api.Dot]"], unfollowed := true, recurses := true, named := ["unicode/utf8.first", "unicode/utf8.acceptRanges", "internal/bytealg.MaxLen"], loops := true, plainKeys := false, apart := false, laid := [("unicode/utf8.acceptRanges", laid_unicode_utf8_acceptRanges), ("unicode/utf8.first", laid_unicode_utf8_first)] }
def OpApartSaid : Prop := opApartRow.holds Tryz.pinned (OpenSpec.ofChange opApartSpec)

/-- ITS FALSE NEIGHBOUR: 'it returns false'. Refute it at one input. -/
def opApartWrong : ChangeSpec := { name := "opApart", fn := fun _ => fun
  | [d1, d2, d3, d4, d5, d6, d7, d8] => { results := [.lit (.bool false)], args := [d1, d2, d3, d4, d5, d6, d7, d8] }
  | _ => none }
def OpApartWrongFalsely : Prop := opApartRow.holds Tryz.pinned (OpenSpec.ofChange opApartWrong)

/-- 'homesteadlaw16.OpKnows': WHATEVER THE INPUT: true; the input reads as it did. -/
def opKnowsSpec : ChangeSpec := { name := "opKnows", fn := fun _ => fun
  | [d1, d2, d3] => { results := [.lit (.bool true)], args := [d1, d2, d3] }
  | _ => none }
def opKnowsRow : OpenClaim := { program := "ytloecjjehapblaagreatdoor", sum := "6381b0951fbb9c7ea8345ee18860a737bafaf8e609643141d6b064833ae841b2", func := "homestead/homesteadlaw16.OpKnows", spec := "opKnows", inPlace := ["internal/bytealg.IndexByteString", "internal/bytealg.IndexString", "slices.overlaps[homestead/api.Part]", "slices.overlaps[homestead/api.Line]", "slices.overlaps[homestead/api.Value]", "slices.overlaps[homestead/api.Dot]"], unfollowed := true, recurses := true, named := ["unicode/utf8.first", "unicode/utf8.acceptRanges", "internal/bytealg.MaxLen"], plainKeys := false, apart := false, laid := [("unicode/utf8.acceptRanges", laid_unicode_utf8_acceptRanges), ("unicode/utf8.first", laid_unicode_utf8_first)] }
def OpKnowsSaid : Prop := opKnowsRow.holds Tryz.pinned (OpenSpec.ofChange opKnowsSpec)

/-- ITS FALSE NEIGHBOUR: 'it returns false'. Refute it at one input. -/
def opKnowsWrong : ChangeSpec := { name := "opKnows", fn := fun _ => fun
  | [d1, d2, d3] => { results := [.lit (.bool false)], args := [d1, d2, d3] }
  | _ => none }
def OpKnowsWrongFalsely : Prop := opKnowsRow.holds Tryz.pinned (OpenSpec.ofChange opKnowsWrong)

/- THE SECOND FORM. 'bulk': how many values and letters a reading holds, each counted each time it is reached (what is shared counts as often as it is met; a slice's spare places count too). A statement '..UptoSaid' is the law's where the arguments, and the package variables that the reading takes, are together of bulk at most 1048576: NARROWER than '..Said'. Prove '..Said' where nothing that the law and all that it calls make is longer than what came in: it says more and counts as full. Else prove '..UptoSaid'. A law counts once. -/
mutual
def uptoBulk {H : Type} : DataW H → Nat
  | .lit (.string bytes) => bytes.length + 1
  | .lit _ => 1
  | .nil => 1
  | .ptr d => uptoBulk d + 1
  | .slice elems spare => uptoBulkAll elems + uptoBulkAll spare + 1
  | .agg parts => uptoBulkAll parts + 1
  | .iface _ d => uptoBulk d + 1
  | .map entries => uptoBulkEntries entries + 1
  | .held _ => 1
def uptoBulkAll {H : Type} : List (DataW H) → Nat
  | [] => 0
  | d :: r => uptoBulk d + uptoBulkAll r
def uptoBulkEntries {H : Type} : List (Lit × DataW H) → Nat
  | [] => 0
  | x :: r => uptoBulkEntry x + uptoBulkEntries r
def uptoBulkEntry {H : Type} : Lit × DataW H → Nat
  | (.string bytes, d) => bytes.length + uptoBulk d + 1
  | (_, d) => uptoBulk d + 1
 end
def uptoSmall : (H : Type) → List (DataW H) → Bool := fun _ ds => decide (uptoBulkAll ds ≤ 1048576)
def OpenSpec.upto (s : _root_.Go.ChangeSpec) : _root_.Go.OpenSpec := { _root_.Go.OpenSpec.ofChange s with cond := some uptoSmall }

/-- 'homesteadlaw30.WhyNone', WHERE WHAT IT READS IS OF BULK AT MOST 1048576: true; the input reads as it did. -/
def whyNoneUptoRow : OpenClaim := { program := "ytloecjjehapblaagreatdoor", sum := "6381b0951fbb9c7ea8345ee18860a737bafaf8e609643141d6b064833ae841b2", func := "homestead/homesteadlaw30.WhyNone", spec := "whyNone", inPlace := ["internal/bytealg.IndexByteString", "internal/bytealg.IndexString", "slices.overlaps[homestead/api.Value]"], unfollowed := true, recurses := true, named := ["unicode/utf8.first", "unicode/utf8.acceptRanges", "internal/bytealg.MaxLen"], loops := true, plainKeys := false, apart := false, laid := [("unicode/utf8.acceptRanges", laid_unicode_utf8_acceptRanges), ("unicode/utf8.first", laid_unicode_utf8_first)], narrowed := true }
def WhyNoneUptoSaid : Prop := whyNoneUptoRow.holds Tryz.pinned (OpenSpec.upto whyNoneSpec)

/-- 'homesteadlaw16.OpGood', WHERE WHAT IT READS IS OF BULK AT MOST 1048576: true; the input reads as it did. -/
def opGoodUptoRow : OpenClaim := { program := "ytloecjjehapblaagreatdoor", sum := "6381b0951fbb9c7ea8345ee18860a737bafaf8e609643141d6b064833ae841b2", func := "homestead/homesteadlaw16.OpGood", spec := "opGood", inPlace := ["internal/bytealg.IndexByteString", "internal/bytealg.IndexString", "slices.overlaps[homestead/api.Part]", "slices.overlaps[homestead/api.Line]", "slices.overlaps[homestead/api.Value]", "slices.overlaps[homestead/api.Dot]"], unfollowed := true, recurses := true, named := ["unicode/utf8.first", "unicode/utf8.acceptRanges", "internal/bytealg.MaxLen"], loops := true, plainKeys := false, apart := false, laid := [("unicode/utf8.acceptRanges", laid_unicode_utf8_acceptRanges), ("unicode/utf8.first", laid_unicode_utf8_first)], narrowed := true }
def OpGoodUptoSaid : Prop := opGoodUptoRow.holds Tryz.pinned (OpenSpec.upto opGoodSpec)

/-- 'homesteadlaw16.OpSteps', WHERE WHAT IT READS IS OF BULK AT MOST 1048576: true; the input reads as it did. -/
def opStepsUptoRow : OpenClaim := { program := "ytloecjjehapblaagreatdoor", sum := "6381b0951fbb9c7ea8345ee18860a737bafaf8e609643141d6b064833ae841b2", func := "homestead/homesteadlaw16.OpSteps", spec := "opSteps", inPlace := ["internal/bytealg.IndexByteString", "internal/bytealg.IndexString", "slices.overlaps[homestead/api.Part]", "slices.overlaps[homestead/api.Line]", "slices.overlaps[homestead/api.Value]", "slices.overlaps[homestead/api.Dot]"], unfollowed := true, recurses := true, named := ["unicode/utf8.first", "unicode/utf8.acceptRanges", "internal/bytealg.MaxLen"], loops := true, plainKeys := false, apart := false, laid := [("unicode/utf8.acceptRanges", laid_unicode_utf8_acceptRanges), ("unicode/utf8.first", laid_unicode_utf8_first)], narrowed := true }
def OpStepsUptoSaid : Prop := opStepsUptoRow.holds Tryz.pinned (OpenSpec.upto opStepsSpec)

/-- 'homesteadlaw16.OpOwn', WHERE WHAT IT READS IS OF BULK AT MOST 1048576: true; the input reads as it did. -/
def opOwnUptoRow : OpenClaim := { program := "ytloecjjehapblaagreatdoor", sum := "6381b0951fbb9c7ea8345ee18860a737bafaf8e609643141d6b064833ae841b2", func := "homestead/homesteadlaw16.OpOwn", spec := "opOwn", inPlace := ["internal/bytealg.IndexByteString", "internal/bytealg.IndexString", "slices.overlaps[homestead/api.Part]", "slices.overlaps[homestead/api.Line]", "slices.overlaps[homestead/api.Value]", "slices.overlaps[homestead/api.Dot]"], unfollowed := true, recurses := true, named := ["unicode/utf8.first", "unicode/utf8.acceptRanges", "internal/bytealg.MaxLen"], loops := true, plainKeys := false, apart := false, laid := [("unicode/utf8.acceptRanges", laid_unicode_utf8_acceptRanges), ("unicode/utf8.first", laid_unicode_utf8_first)], narrowed := true }
def OpOwnUptoSaid : Prop := opOwnUptoRow.holds Tryz.pinned (OpenSpec.upto opOwnSpec)

/-- 'homesteadlaw16.OpApart', WHERE WHAT IT READS IS OF BULK AT MOST 1048576: true; the input reads as it did. -/
def opApartUptoRow : OpenClaim := { program := "ytloecjjehapblaagreatdoor", sum := "6381b0951fbb9c7ea8345ee18860a737bafaf8e609643141d6b064833ae841b2", func := "homestead/homesteadlaw16.OpApart", spec := "opApart", inPlace := ["internal/bytealg.IndexByteString", "internal/bytealg.IndexString", "slices.overlaps[homestead/api.Part]", "slices.overlaps[homestead/api.Line]", "slices.overlaps[homestead/api.Value]", "slices.overlaps[homestead/api.Dot]"], unfollowed := true, recurses := true, named := ["unicode/utf8.first", "unicode/utf8.acceptRanges", "internal/bytealg.MaxLen"], loops := true, plainKeys := false, apart := false, laid := [("unicode/utf8.acceptRanges", laid_unicode_utf8_acceptRanges), ("unicode/utf8.first", laid_unicode_utf8_first)], narrowed := true }
def OpApartUptoSaid : Prop := opApartUptoRow.holds Tryz.pinned (OpenSpec.upto opApartSpec)

/-- 'homesteadlaw16.OpKnows', WHERE WHAT IT READS IS OF BULK AT MOST 1048576: true; the input reads as it did. -/
def opKnowsUptoRow : OpenClaim := { program := "ytloecjjehapblaagreatdoor", sum := "6381b0951fbb9c7ea8345ee18860a737bafaf8e609643141d6b064833ae841b2", func := "homestead/homesteadlaw16.OpKnows", spec := "opKnows", inPlace := ["internal/bytealg.IndexByteString", "internal/bytealg.IndexString", "slices.overlaps[homestead/api.Part]", "slices.overlaps[homestead/api.Line]", "slices.overlaps[homestead/api.Value]", "slices.overlaps[homestead/api.Dot]"], unfollowed := true, recurses := true, named := ["unicode/utf8.first", "unicode/utf8.acceptRanges", "internal/bytealg.MaxLen"], plainKeys := false, apart := false, laid := [("unicode/utf8.acceptRanges", laid_unicode_utf8_acceptRanges), ("unicode/utf8.first", laid_unicode_utf8_first)], narrowed := true }
def OpKnowsUptoSaid : Prop := opKnowsUptoRow.holds Tryz.pinned (OpenSpec.upto opKnowsSpec)

end Rows
end Go.Proofs.YtloecjjehapblaaGreatDoor
