/-
  No cell of these rows narrows 'for every input' (looked for: loops, veiled, ifaces, maps, wideKeys, modest, calm, conditions, laid).
  DERIVED. THE GIVEN ROWS OF THIS SEAT. 5 by the template 'for every input the law returns true; each argument reads behind the call as it read before'; 0 by the template 'total and deterministic' (their statements: YtmljghkinhaalaaTotals.lean).
  GIVEN WITH THE SEED: the statements are not yours to turn. If you find one false, say at which input.
  Laid BY PROGRAM, IN A SANDBOX (cutbox-rows.mjs): the forced cells as the released guide's own fill.sh prints them over the translation e494205cb1b06ad7… (all of the seat's roots in one cut). By AI agents, Wed Nov 11 2026. No macro, syntax, notation, axiom, sorry.
-/
import Derived.Test.YtmljghkinhaalaaChecked
import GoSem.Claim
import GoSem.ClaimJoined
import GoSem.ClaimMapViews
import Derived.JoinedTies
import Derived.KernelRfl
namespace Go.Proofs.Ytmljghkinhaalaa
/- THE CELL 'sum', in the pinned program and in every row, IS THE sha256 OF THE DUMP (.gsa) THAT YtmljghkinhaalaaProg.lean LOADS. Nothing in Lean hashes anything: it is a label: what it is worth is what the hold of that sum in a sandbox is worth. -/
noncomputable def Try.pinned : Pinned := { name := "ytmljghkinhaalaa", sum := "e494205cb1b06ad7b1c55a337fe1ff6a681d2a86e4e4e9dc10a00885e64c080b", checked := Try.checked }
namespace Rows
def none {H : Type} : Left H := { results := [], args := [] }

/-- 'homesteadlaw10.TextTells': WHATEVER THE INPUT: true; the input reads as it did. -/
def textTellsSpec : ChangeSpec := { name := "textTells", fn := fun _ => fun
  | [d] => { results := [.lit (.bool true)], args := [d] }
  | _ => none }
def textTellsRow : OpenClaim := { program := "ytmljghkinhaalaa", sum := "e494205cb1b06ad7b1c55a337fe1ff6a681d2a86e4e4e9dc10a00885e64c080b", func := "homestead/homesteadlaw10.TextTells", spec := "textTells", unfollowed := true, recurses := true, plainKeys := false, apart := false }
def TextTellsSaid : Prop := textTellsRow.holds Try.pinned (OpenSpec.ofChange textTellsSpec)

/-- ITS FALSE NEIGHBOUR: 'it returns false'. Refute it at one input. -/
def textTellsWrong : ChangeSpec := { name := "textTells", fn := fun _ => fun
  | [d] => { results := [.lit (.bool false)], args := [d] }
  | _ => none }
def TextTellsWrongFalsely : Prop := textTellsRow.holds Try.pinned (OpenSpec.ofChange textTellsWrong)

/-- 'homesteadlaw10.TextOne': WHATEVER THE INPUT: true; the input reads as it did. -/
def textOneSpec : ChangeSpec := { name := "textOne", fn := fun _ => fun
  | [d] => { results := [.lit (.bool true)], args := [d] }
  | _ => none }
def textOneRow : OpenClaim := { program := "ytmljghkinhaalaa", sum := "e494205cb1b06ad7b1c55a337fe1ff6a681d2a86e4e4e9dc10a00885e64c080b", func := "homestead/homesteadlaw10.TextOne", spec := "textOne", unfollowed := true, recurses := true, plainKeys := false, apart := false }
def TextOneSaid : Prop := textOneRow.holds Try.pinned (OpenSpec.ofChange textOneSpec)

/-- ITS FALSE NEIGHBOUR: 'it returns false'. Refute it at one input. -/
def textOneWrong : ChangeSpec := { name := "textOne", fn := fun _ => fun
  | [d] => { results := [.lit (.bool false)], args := [d] }
  | _ => none }
def TextOneWrongFalsely : Prop := textOneRow.holds Try.pinned (OpenSpec.ofChange textOneWrong)

/-- 'homesteadlaw10.TextMeets': WHATEVER THE INPUT: true; the input reads as it did. -/
def textMeetsSpec : ChangeSpec := { name := "textMeets", fn := fun _ => fun
  | [d1, d2, d3, d4, d5, d6, d7, d8, d9] => { results := [.lit (.bool true)], args := [d1, d2, d3, d4, d5, d6, d7, d8, d9] }
  | _ => none }
def textMeetsRow : OpenClaim := { program := "ytmljghkinhaalaa", sum := "e494205cb1b06ad7b1c55a337fe1ff6a681d2a86e4e4e9dc10a00885e64c080b", func := "homestead/homesteadlaw10.TextMeets", spec := "textMeets", unfollowed := true, recurses := true, plainKeys := false, apart := false }
def TextMeetsSaid : Prop := textMeetsRow.holds Try.pinned (OpenSpec.ofChange textMeetsSpec)

/-- ITS FALSE NEIGHBOUR: 'it returns false'. Refute it at one input. -/
def textMeetsWrong : ChangeSpec := { name := "textMeets", fn := fun _ => fun
  | [d1, d2, d3, d4, d5, d6, d7, d8, d9] => { results := [.lit (.bool false)], args := [d1, d2, d3, d4, d5, d6, d7, d8, d9] }
  | _ => none }
def TextMeetsWrongFalsely : Prop := textMeetsRow.holds Try.pinned (OpenSpec.ofChange textMeetsWrong)

/-- 'homesteadlaw10.TextBehind': WHATEVER THE INPUT: true; the input reads as it did. -/
def textBehindSpec : ChangeSpec := { name := "textBehind", fn := fun _ => fun
  | [d1, d2, d3, d4] => { results := [.lit (.bool true)], args := [d1, d2, d3, d4] }
  | _ => none }
def textBehindRow : OpenClaim := { program := "ytmljghkinhaalaa", sum := "e494205cb1b06ad7b1c55a337fe1ff6a681d2a86e4e4e9dc10a00885e64c080b", func := "homestead/homesteadlaw10.TextBehind", spec := "textBehind", unfollowed := true, recurses := true, plainKeys := false, apart := false }
def TextBehindSaid : Prop := textBehindRow.holds Try.pinned (OpenSpec.ofChange textBehindSpec)

/-- ITS FALSE NEIGHBOUR: 'it returns false'. Refute it at one input. -/
def textBehindWrong : ChangeSpec := { name := "textBehind", fn := fun _ => fun
  | [d1, d2, d3, d4] => { results := [.lit (.bool false)], args := [d1, d2, d3, d4] }
  | _ => none }
def TextBehindWrongFalsely : Prop := textBehindRow.holds Try.pinned (OpenSpec.ofChange textBehindWrong)

/-- 'homesteadlaw10.TextGone': WHATEVER THE INPUT: true; the input reads as it did. -/
def textGoneSpec : ChangeSpec := { name := "textGone", fn := fun _ => fun
  | [d1, d2, d3, d4, d5, d6, d7] => { results := [.lit (.bool true)], args := [d1, d2, d3, d4, d5, d6, d7] }
  | _ => none }
def textGoneRow : OpenClaim := { program := "ytmljghkinhaalaa", sum := "e494205cb1b06ad7b1c55a337fe1ff6a681d2a86e4e4e9dc10a00885e64c080b", func := "homestead/homesteadlaw10.TextGone", spec := "textGone", unfollowed := true, recurses := true, plainKeys := false, apart := false }
def TextGoneSaid : Prop := textGoneRow.holds Try.pinned (OpenSpec.ofChange textGoneSpec)

/-- ITS FALSE NEIGHBOUR: 'it returns false'. Refute it at one input. -/
def textGoneWrong : ChangeSpec := { name := "textGone", fn := fun _ => fun
  | [d1, d2, d3, d4, d5, d6, d7] => { results := [.lit (.bool false)], args := [d1, d2, d3, d4, d5, d6, d7] }
  | _ => none }
def TextGoneWrongFalsely : Prop := textGoneRow.holds Try.pinned (OpenSpec.ofChange textGoneWrong)

/- THE SECOND FORM. 'bulk': how many values and letters a reading holds, each counted each time it is reached (what is shared counts as often as it is met; a slice's spare places count too). A statement '..UptoSaid' is the law's where the arguments, and the package variables that the reading takes, are together of bulk at most 1048576: NARROWER than '..Said'. Prove '..Said' where nothing that the law and all that it calls make is longer than what came in: it says more and counts as full. Else prove '..UptoSaid'. A law counts once. -/
mutual
def uptoBulk {H : Type} : DataW H → Nat
  | .lit (.string bytes) => bytes.length + 1
  | .lit _ => 1
  | .nil => 1
  | .ptr d => uptoBulk d + 1
  | .slice elems spare => uptoBulkAll elems + uptoBulkAll spare + 1
  | .agg parts => uptoBulkAll parts + 1
  | .iface _ d => uptoBulk d + 1
  | .map entries => uptoBulkEntries entries + 1
  | .held _ => 1
def uptoBulkAll {H : Type} : List (DataW H) → Nat
  | [] => 0
  | d :: r => uptoBulk d + uptoBulkAll r
def uptoBulkEntries {H : Type} : List (Lit × DataW H) → Nat
  | [] => 0
  | x :: r => uptoBulkEntry x + uptoBulkEntries r
def uptoBulkEntry {H : Type} : Lit × DataW H → Nat
  | (.string bytes, d) => bytes.length + uptoBulk d + 1
  | (_, d) => uptoBulk d + 1
 end
def uptoSmall : (H : Type) → List (DataW H) → Bool := fun _ ds => decide (uptoBulkAll ds ≤ 1048576)
def OpenSpec.upto (s : _root_.Go.ChangeSpec) : _root_.Go.OpenSpec := { _root_.Go.OpenSpec.ofChange s with cond := some uptoSmall }

/-- 'homesteadlaw10.TextTells', WHERE WHAT IT READS IS OF BULK AT MOST 1048576: true; the input reads as it did. -/
def textTellsUptoRow : OpenClaim := { program := "ytmljghkinhaalaa", sum := "e494205cb1b06ad7b1c55a337fe1ff6a681d2a86e4e4e9dc10a00885e64c080b", func := "homestead/homesteadlaw10.TextTells", spec := "textTells", unfollowed := true, recurses := true, plainKeys := false, apart := false, narrowed := true }
def TextTellsUptoSaid : Prop := textTellsUptoRow.holds Try.pinned (OpenSpec.upto textTellsSpec)

/-- 'homesteadlaw10.TextOne', WHERE WHAT IT READS IS OF BULK AT MOST 1048576: true; the input reads as it did. -/
def textOneUptoRow : OpenClaim := { program := "ytmljghkinhaalaa", sum := "e494205cb1b06ad7b1c55a337fe1ff6a681d2a86e4e4e9dc10a00885e64c080b", func := "homestead/homesteadlaw10.TextOne", spec := "textOne", unfollowed := true, recurses := true, plainKeys := false, apart := false, narrowed := true }
def TextOneUptoSaid : Prop := textOneUptoRow.holds Try.pinned (OpenSpec.upto textOneSpec)

/-- 'homesteadlaw10.TextMeets', WHERE WHAT IT READS IS OF BULK AT MOST 1048576: true; the input reads as it did. -/
def textMeetsUptoRow : OpenClaim := { program := "ytmljghkinhaalaa", sum := "e494205cb1b06ad7b1c55a337fe1ff6a681d2a86e4e4e9dc10a00885e64c080b", func := "homestead/homesteadlaw10.TextMeets", spec := "textMeets", unfollowed := true, recurses := true, plainKeys := false, apart := false, narrowed := true }
def TextMeetsUptoSaid : Prop := textMeetsUptoRow.holds Try.pinned (OpenSpec.upto textMeetsSpec)

/-- 'homesteadlaw10.TextBehind', WHERE WHAT IT READS IS OF BULK AT MOST 1048576: true; the input reads as it did. -/
def textBehindUptoRow : OpenClaim := { program := "ytmljghkinhaalaa", sum := "e494205cb1b06ad7b1c55a337fe1ff6a681d2a86e4e4e9dc10a00885e64c080b", func := "homestead/homesteadlaw10.TextBehind", spec := "textBehind", unfollowed := true, recurses := true, plainKeys := false, apart := false, narrowed := true }
def TextBehindUptoSaid : Prop := textBehindUptoRow.holds Try.pinned (OpenSpec.upto textBehindSpec)

/-- 'homesteadlaw10.TextGone', WHERE WHAT IT READS IS OF BULK AT MOST 1048576: true; the input reads as it did. -/
def textGoneUptoRow : OpenClaim := { program := "ytmljghkinhaalaa", sum := "e494205cb1b06ad7b1c55a337fe1ff6a681d2a86e4e4e9dc10a00885e64c080b", func := "homestead/homesteadlaw10.TextGone", spec := "textGone", unfollowed := true, recurses := true, plainKeys := false, apart := false, narrowed := true }
def TextGoneUptoSaid : Prop := textGoneUptoRow.holds Try.pinned (OpenSpec.upto textGoneSpec)

end Rows
end Go.Proofs.Ytmljghkinhaalaa
