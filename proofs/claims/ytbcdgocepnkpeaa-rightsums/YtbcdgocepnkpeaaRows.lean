/-
  NARROWER THAN 'FOR EVERY INPUT', by the rows' own cells (each row's printed sentence says how): RightBack: loops · RightGiven: loops.
  DERIVED. THE GIVEN ROWS OF THIS SEAT. 4 by the template 'for every input the law returns true; each argument reads behind the call as it read before'; 0 by the template 'total and deterministic' (their statements: YtbcdgocepnkpeaaTotals.lean).
  GIVEN WITH THE SEED: the statements are not yours to turn. If you find one false, say at which input.
  Laid BY PROGRAM, IN A SANDBOX (cutbox-rows.mjs): the forced cells as the released guide's own fill.sh prints them over the translation 1e3e4ded8f2666f6… (all of the seat's roots in one cut). By AI agents, Wed Nov 11 2026. No macro, syntax, notation, axiom, sorry.
-/
import Derived.Test.YtbcdgocepnkpeaaChecked
import GoSem.Claim
import GoSem.ClaimJoined
import GoSem.ClaimMapViews
import Derived.JoinedTies
import Derived.KernelRfl
namespace Go.Proofs.Ytbcdgocepnkpeaa
/- THE CELL 'sum', in the pinned program and in every row, IS THE sha256 OF THE DUMP (.gsa) THAT YtbcdgocepnkpeaaProg.lean LOADS. Nothing in Lean hashes anything: it is a label: what it is worth is what the hold of that sum in a sandbox is worth. -/
noncomputable def Try.pinned : Pinned := { name := "ytbcdgocepnkpeaa", sum := "1e3e4ded8f2666f6b9d8f46f685f8c59b874ab8e8fff2d046c5e05bf460ec8b7", checked := Try.checked }
namespace Rows
def none {H : Type} : Left H := { results := [], args := [] }

/-- 'homesteadlaw18.RightOne': WHATEVER THE INPUT: true; the input reads as it did. -/
def rightOneSpec : ChangeSpec := { name := "rightOne", fn := fun _ => fun
  | [d1, d2] => { results := [.lit (.bool true)], args := [d1, d2] }
  | _ => none }
def rightOneRow : OpenClaim := { program := "ytbcdgocepnkpeaa", sum := "1e3e4ded8f2666f6b9d8f46f685f8c59b874ab8e8fff2d046c5e05bf460ec8b7", func := "homestead/homesteadlaw18.RightOne", spec := "rightOne", unfollowed := true, recurses := true, plainKeys := false, apart := false }
def RightOneSaid : Prop := rightOneRow.holds Try.pinned (OpenSpec.ofChange rightOneSpec)

/-- ITS FALSE NEIGHBOUR: 'it returns false'. Refute it at one input. -/
def rightOneWrong : ChangeSpec := { name := "rightOne", fn := fun _ => fun
  | [d1, d2] => { results := [.lit (.bool false)], args := [d1, d2] }
  | _ => none }
def RightOneWrongFalsely : Prop := rightOneRow.holds Try.pinned (OpenSpec.ofChange rightOneWrong)

/-- 'homesteadlaw18.RightSums': WHATEVER THE INPUT: true; the input reads as it did. -/
def rightSumsSpec : ChangeSpec := { name := "rightSums", fn := fun _ => fun
  | [d1, d2] => { results := [.lit (.bool true)], args := [d1, d2] }
  | _ => none }
def rightSumsRow : OpenClaim := { program := "ytbcdgocepnkpeaa", sum := "1e3e4ded8f2666f6b9d8f46f685f8c59b874ab8e8fff2d046c5e05bf460ec8b7", func := "homestead/homesteadlaw18.RightSums", spec := "rightSums", unfollowed := true, recurses := true, plainKeys := false, apart := false }
def RightSumsSaid : Prop := rightSumsRow.holds Try.pinned (OpenSpec.ofChange rightSumsSpec)

/-- ITS FALSE NEIGHBOUR: 'it returns false'. Refute it at one input. -/
def rightSumsWrong : ChangeSpec := { name := "rightSums", fn := fun _ => fun
  | [d1, d2] => { results := [.lit (.bool false)], args := [d1, d2] }
  | _ => none }
def RightSumsWrongFalsely : Prop := rightSumsRow.holds Try.pinned (OpenSpec.ofChange rightSumsWrong)

/-- 'homesteadlaw18.RightBack': WHATEVER THE INPUT: true; the input reads as it did. -/
def rightBackSpec : ChangeSpec := { name := "rightBack", fn := fun _ => fun
  | [d1, d2, d3, d4, d5, d6] => { results := [.lit (.bool true)], args := [d1, d2, d3, d4, d5, d6] }
  | _ => none }
def rightBackRow : OpenClaim := { program := "ytbcdgocepnkpeaa", sum := "1e3e4ded8f2666f6b9d8f46f685f8c59b874ab8e8fff2d046c5e05bf460ec8b7", func := "homestead/homesteadlaw18.RightBack", spec := "rightBack", unfollowed := true, recurses := true, loops := true, plainKeys := false, apart := false }
def RightBackSaid : Prop := rightBackRow.holds Try.pinned (OpenSpec.ofChange rightBackSpec)

/-- ITS FALSE NEIGHBOUR: 'it returns false'. Refute it at one input. -/
def rightBackWrong : ChangeSpec := { name := "rightBack", fn := fun _ => fun
  | [d1, d2, d3, d4, d5, d6] => { results := [.lit (.bool false)], args := [d1, d2, d3, d4, d5, d6] }
  | _ => none }
def RightBackWrongFalsely : Prop := rightBackRow.holds Try.pinned (OpenSpec.ofChange rightBackWrong)

/-- 'homesteadlaw18.RightGiven': WHATEVER THE INPUT: true; the input reads as it did. -/
def rightGivenSpec : ChangeSpec := { name := "rightGiven", fn := fun _ => fun
  | [d1, d2, d3, d4, d5, d6] => { results := [.lit (.bool true)], args := [d1, d2, d3, d4, d5, d6] }
  | _ => none }
def rightGivenRow : OpenClaim := { program := "ytbcdgocepnkpeaa", sum := "1e3e4ded8f2666f6b9d8f46f685f8c59b874ab8e8fff2d046c5e05bf460ec8b7", func := "homestead/homesteadlaw18.RightGiven", spec := "rightGiven", unfollowed := true, recurses := true, loops := true, plainKeys := false, apart := false }
def RightGivenSaid : Prop := rightGivenRow.holds Try.pinned (OpenSpec.ofChange rightGivenSpec)

/-- ITS FALSE NEIGHBOUR: 'it returns false'. Refute it at one input. -/
def rightGivenWrong : ChangeSpec := { name := "rightGiven", fn := fun _ => fun
  | [d1, d2, d3, d4, d5, d6] => { results := [.lit (.bool false)], args := [d1, d2, d3, d4, d5, d6] }
  | _ => none }
def RightGivenWrongFalsely : Prop := rightGivenRow.holds Try.pinned (OpenSpec.ofChange rightGivenWrong)

/- THE SECOND FORM. 'bulk': how many values and letters a reading holds, each counted each time it is reached (what is shared counts as often as it is met; a slice's spare places count too). A statement '..UptoSaid' is the law's where the arguments, and the package variables that the reading takes, are together of bulk at most 1048576: NARROWER than '..Said'. Prove '..Said' where nothing that the law and all that it calls make is longer than what came in: it says more and counts as full. Else prove '..UptoSaid'. A law counts once. -/
mutual
def uptoBulk {H : Type} : DataW H → Nat
  | .lit (.string bytes) => bytes.length + 1
  | .lit _ => 1
  | .nil => 1
  | .ptr d => uptoBulk d + 1
  | .slice elems spare => uptoBulkAll elems + uptoBulkAll spare + 1
  | .agg parts => uptoBulkAll parts + 1
  | .iface _ d => uptoBulk d + 1
  | .map entries => uptoBulkEntries entries + 1
  | .held _ => 1
def uptoBulkAll {H : Type} : List (DataW H) → Nat
  | [] => 0
  | d :: r => uptoBulk d + uptoBulkAll r
def uptoBulkEntries {H : Type} : List (Lit × DataW H) → Nat
  | [] => 0
  | x :: r => uptoBulkEntry x + uptoBulkEntries r
def uptoBulkEntry {H : Type} : Lit × DataW H → Nat
  | (.string bytes, d) => bytes.length + uptoBulk d + 1
  | (_, d) => uptoBulk d + 1
 end
def uptoSmall : (H : Type) → List (DataW H) → Bool := fun _ ds => decide (uptoBulkAll ds ≤ 1048576)
def OpenSpec.upto (s : _root_.Go.ChangeSpec) : _root_.Go.OpenSpec := { _root_.Go.OpenSpec.ofChange s with cond := some uptoSmall }

/-- 'homesteadlaw18.RightOne', WHERE WHAT IT READS IS OF BULK AT MOST 1048576: true; the input reads as it did. -/
def rightOneUptoRow : OpenClaim := { program := "ytbcdgocepnkpeaa", sum := "1e3e4ded8f2666f6b9d8f46f685f8c59b874ab8e8fff2d046c5e05bf460ec8b7", func := "homestead/homesteadlaw18.RightOne", spec := "rightOne", unfollowed := true, recurses := true, plainKeys := false, apart := false, narrowed := true }
def RightOneUptoSaid : Prop := rightOneUptoRow.holds Try.pinned (OpenSpec.upto rightOneSpec)

/-- 'homesteadlaw18.RightSums', WHERE WHAT IT READS IS OF BULK AT MOST 1048576: true; the input reads as it did. -/
def rightSumsUptoRow : OpenClaim := { program := "ytbcdgocepnkpeaa", sum := "1e3e4ded8f2666f6b9d8f46f685f8c59b874ab8e8fff2d046c5e05bf460ec8b7", func := "homestead/homesteadlaw18.RightSums", spec := "rightSums", unfollowed := true, recurses := true, plainKeys := false, apart := false, narrowed := true }
def RightSumsUptoSaid : Prop := rightSumsUptoRow.holds Try.pinned (OpenSpec.upto rightSumsSpec)

/-- 'homesteadlaw18.RightBack', WHERE WHAT IT READS IS OF BULK AT MOST 1048576: true; the input reads as it did. -/
def rightBackUptoRow : OpenClaim := { program := "ytbcdgocepnkpeaa", sum := "1e3e4ded8f2666f6b9d8f46f685f8c59b874ab8e8fff2d046c5e05bf460ec8b7", func := "homestead/homesteadlaw18.RightBack", spec := "rightBack", unfollowed := true, recurses := true, loops := true, plainKeys := false, apart := false, narrowed := true }
def RightBackUptoSaid : Prop := rightBackUptoRow.holds Try.pinned (OpenSpec.upto rightBackSpec)

/-- 'homesteadlaw18.RightGiven', WHERE WHAT IT READS IS OF BULK AT MOST 1048576: true; the input reads as it did. -/
def rightGivenUptoRow : OpenClaim := { program := "ytbcdgocepnkpeaa", sum := "1e3e4ded8f2666f6b9d8f46f685f8c59b874ab8e8fff2d046c5e05bf460ec8b7", func := "homestead/homesteadlaw18.RightGiven", spec := "rightGiven", unfollowed := true, recurses := true, loops := true, plainKeys := false, apart := false, narrowed := true }
def RightGivenUptoSaid : Prop := rightGivenUptoRow.holds Try.pinned (OpenSpec.upto rightGivenSpec)

end Rows
end Go.Proofs.Ytbcdgocepnkpeaa
