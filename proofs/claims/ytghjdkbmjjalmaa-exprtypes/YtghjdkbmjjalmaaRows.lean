/-
  NARROWER THAN 'FOR EVERY INPUT', by the rows' own cells (each row's printed sentence says how): ExprSound: loops · ExprTypes: loops.
  DERIVED. THE GIVEN ROWS OF THIS SEAT. 3 by the template 'for every input the law returns true; each argument reads behind the call as it read before'; 0 by the template 'total and deterministic' (their statements: YtghjdkbmjjalmaaTotals.lean).
  GIVEN WITH THE SEED: the statements are not yours to turn. If you find one false, say at which input.
  Laid BY PROGRAM, IN A SANDBOX (cutbox-rows.mjs): the forced cells as the released guide's own fill.sh prints them over the translation 3d6f382ed8d5914a… (all of the seat's roots in one cut). By AI agents, Wed Nov 11 2026. No macro, syntax, notation, axiom, sorry.
-/
import Derived.Test.YtghjdkbmjjalmaaChecked
import GoSem.Claim
import GoSem.ClaimJoined
import GoSem.ClaimMapViews
import Derived.JoinedTies
import Derived.KernelRfl
namespace Go.Proofs.Ytghjdkbmjjalmaa
/- THE CELL 'sum', in the pinned program and in every row, IS THE sha256 OF THE DUMP (.gsa) THAT YtghjdkbmjjalmaaProg.lean LOADS. Nothing in Lean hashes anything: it is a label: what it is worth is what the hold of that sum in a sandbox is worth. -/
noncomputable def Try.pinned : Pinned := { name := "ytghjdkbmjjalmaa", sum := "3d6f382ed8d5914aee162db8dc261247a6e6e1db980ad9162b1430591b9f3051", checked := Try.checked }
namespace Rows
def none {H : Type} : Left H := { results := [], args := [] }

/-- 'homesteadlaw12.ExprSound': WHATEVER THE INPUT: true; the input reads as it did. -/
def exprSoundSpec : ChangeSpec := { name := "exprSound", fn := fun _ => fun
  | [d1, d2, d3] => { results := [.lit (.bool true)], args := [d1, d2, d3] }
  | _ => none }
def exprSoundRow : OpenClaim := { program := "ytghjdkbmjjalmaa", sum := "3d6f382ed8d5914aee162db8dc261247a6e6e1db980ad9162b1430591b9f3051", func := "homestead/homesteadlaw12.ExprSound", spec := "exprSound", unfollowed := true, recurses := true, loops := true, apart := false }
def ExprSoundSaid : Prop := exprSoundRow.holds Try.pinned (OpenSpec.ofChange exprSoundSpec)

/-- ITS FALSE NEIGHBOUR: 'it returns false'. Refute it at one input. -/
def exprSoundWrong : ChangeSpec := { name := "exprSound", fn := fun _ => fun
  | [d1, d2, d3] => { results := [.lit (.bool false)], args := [d1, d2, d3] }
  | _ => none }
def ExprSoundWrongFalsely : Prop := exprSoundRow.holds Try.pinned (OpenSpec.ofChange exprSoundWrong)

/-- 'homesteadlaw12.ExprReckons': WHATEVER THE INPUT: true; the input reads as it did. -/
def exprReckonsSpec : ChangeSpec := { name := "exprReckons", fn := fun _ => fun
  | [d1, d2, d3] => { results := [.lit (.bool true)], args := [d1, d2, d3] }
  | _ => none }
def exprReckonsRow : OpenClaim := { program := "ytghjdkbmjjalmaa", sum := "3d6f382ed8d5914aee162db8dc261247a6e6e1db980ad9162b1430591b9f3051", func := "homestead/homesteadlaw12.ExprReckons", spec := "exprReckons", unfollowed := true, recurses := true, apart := false }
def ExprReckonsSaid : Prop := exprReckonsRow.holds Try.pinned (OpenSpec.ofChange exprReckonsSpec)

/-- ITS FALSE NEIGHBOUR: 'it returns false'. Refute it at one input. -/
def exprReckonsWrong : ChangeSpec := { name := "exprReckons", fn := fun _ => fun
  | [d1, d2, d3] => { results := [.lit (.bool false)], args := [d1, d2, d3] }
  | _ => none }
def ExprReckonsWrongFalsely : Prop := exprReckonsRow.holds Try.pinned (OpenSpec.ofChange exprReckonsWrong)

/-- 'homesteadlaw12.ExprTypes': WHATEVER THE INPUT: true; the input reads as it did. -/
def exprTypesSpec : ChangeSpec := { name := "exprTypes", fn := fun _ => fun
  | [d1, d2, d3, d4] => { results := [.lit (.bool true)], args := [d1, d2, d3, d4] }
  | _ => none }
def exprTypesRow : OpenClaim := { program := "ytghjdkbmjjalmaa", sum := "3d6f382ed8d5914aee162db8dc261247a6e6e1db980ad9162b1430591b9f3051", func := "homestead/homesteadlaw12.ExprTypes", spec := "exprTypes", unfollowed := true, recurses := true, loops := true, apart := false }
def ExprTypesSaid : Prop := exprTypesRow.holds Try.pinned (OpenSpec.ofChange exprTypesSpec)

/-- ITS FALSE NEIGHBOUR: 'it returns false'. Refute it at one input. -/
def exprTypesWrong : ChangeSpec := { name := "exprTypes", fn := fun _ => fun
  | [d1, d2, d3, d4] => { results := [.lit (.bool false)], args := [d1, d2, d3, d4] }
  | _ => none }
def ExprTypesWrongFalsely : Prop := exprTypesRow.holds Try.pinned (OpenSpec.ofChange exprTypesWrong)

/- THE SECOND FORM. 'bulk': how many values and letters a reading holds, each counted each time it is reached (what is shared counts as often as it is met; a slice's spare places count too). A statement '..UptoSaid' is the law's where the arguments, and the package variables that the reading takes, are together of bulk at most 1048576: NARROWER than '..Said'. Prove '..Said' where nothing that the law and all that it calls make is longer than what came in: it says more and counts as full. Else prove '..UptoSaid'. A law counts once. -/
mutual
def uptoBulk {H : Type} : DataW H → Nat
  | .lit (.string bytes) => bytes.length + 1
  | .lit _ => 1
  | .nil => 1
  | .ptr d => uptoBulk d + 1
  | .slice elems spare => uptoBulkAll elems + uptoBulkAll spare + 1
  | .agg parts => uptoBulkAll parts + 1
  | .iface _ d => uptoBulk d + 1
  | .map entries => uptoBulkEntries entries + 1
  | .held _ => 1
def uptoBulkAll {H : Type} : List (DataW H) → Nat
  | [] => 0
  | d :: r => uptoBulk d + uptoBulkAll r
def uptoBulkEntries {H : Type} : List (Lit × DataW H) → Nat
  | [] => 0
  | x :: r => uptoBulkEntry x + uptoBulkEntries r
def uptoBulkEntry {H : Type} : Lit × DataW H → Nat
  | (.string bytes, d) => bytes.length + uptoBulk d + 1
  | (_, d) => uptoBulk d + 1
 end
def uptoSmall : (H : Type) → List (DataW H) → Bool := fun _ ds => decide (uptoBulkAll ds ≤ 1048576)
def OpenSpec.upto (s : _root_.Go.ChangeSpec) : _root_.Go.OpenSpec := { _root_.Go.OpenSpec.ofChange s with cond := some uptoSmall }

/-- 'homesteadlaw12.ExprSound', WHERE WHAT IT READS IS OF BULK AT MOST 1048576: true; the input reads as it did. -/
def exprSoundUptoRow : OpenClaim := { program := "ytghjdkbmjjalmaa", sum := "3d6f382ed8d5914aee162db8dc261247a6e6e1db980ad9162b1430591b9f3051", func := "homestead/homesteadlaw12.ExprSound", spec := "exprSound", unfollowed := true, recurses := true, loops := true, apart := false, narrowed := true }
def ExprSoundUptoSaid : Prop := exprSoundUptoRow.holds Try.pinned (OpenSpec.upto exprSoundSpec)

/-- 'homesteadlaw12.ExprReckons', WHERE WHAT IT READS IS OF BULK AT MOST 1048576: true; the input reads as it did. -/
def exprReckonsUptoRow : OpenClaim := { program := "ytghjdkbmjjalmaa", sum := "3d6f382ed8d5914aee162db8dc261247a6e6e1db980ad9162b1430591b9f3051", func := "homestead/homesteadlaw12.ExprReckons", spec := "exprReckons", unfollowed := true, recurses := true, apart := false, narrowed := true }
def ExprReckonsUptoSaid : Prop := exprReckonsUptoRow.holds Try.pinned (OpenSpec.upto exprReckonsSpec)

/-- 'homesteadlaw12.ExprTypes', WHERE WHAT IT READS IS OF BULK AT MOST 1048576: true; the input reads as it did. -/
def exprTypesUptoRow : OpenClaim := { program := "ytghjdkbmjjalmaa", sum := "3d6f382ed8d5914aee162db8dc261247a6e6e1db980ad9162b1430591b9f3051", func := "homestead/homesteadlaw12.ExprTypes", spec := "exprTypes", unfollowed := true, recurses := true, loops := true, apart := false, narrowed := true }
def ExprTypesUptoSaid : Prop := exprTypesUptoRow.holds Try.pinned (OpenSpec.upto exprTypesSpec)

end Rows
end Go.Proofs.Ytghjdkbmjjalmaa
