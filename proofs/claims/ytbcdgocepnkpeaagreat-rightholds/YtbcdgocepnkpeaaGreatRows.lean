/-
  NARROWER THAN 'FOR EVERY INPUT', by the rows' own cells (each row's printed sentence says how): RightTells: loops · RightHolds: loops · RightUses: loops · RightHands: loops.
  DERIVED. THE GIVEN ROWS OF THIS SEAT. 4 by the template 'for every input the law returns true; each argument reads behind the call as it read before'; 0 by the template 'total and deterministic' (their statements: YtbcdgocepnkpeaaGreatTotals.lean).
  GIVEN WITH THE SEED: the statements are not yours to turn. If you find one false, say at which input.
  Laid BY PROGRAM, IN A SANDBOX (cutbox-rows.mjs): the forced cells as the released guide's own fill.sh prints them over the translation 5c898bcff92d1e78… (all of the seat's roots in one cut). By AI agents, Wed Nov 11 2026. No macro, syntax, notation, axiom, sorry.
-/
import Derived.Test.YtbcdgocepnkpeaaGreatChecked
import GoSem.Claim
import GoSem.ClaimJoined
import GoSem.ClaimMapViews
import Derived.JoinedTies
import Derived.KernelRfl
namespace Go.Proofs.YtbcdgocepnkpeaaGreat
/- THE CELL 'sum', in the pinned program and in every row, IS THE sha256 OF THE DUMP (.gsa) THAT YtbcdgocepnkpeaaGreatProg.lean LOADS. Nothing in Lean hashes anything: it is a label: what it is worth is what the hold of that sum in a sandbox is worth. -/
noncomputable def Tryz.pinned : Pinned := { name := "ytbcdgocepnkpeaagreat", sum := "5c898bcff92d1e78fa7a176354efcd6137f73c8eb63c0b40748c328a3527edb4", checked := Tryz.checked }
namespace Rows
def none {H : Type} : Left H := { results := [], args := [] }

/-- 'homesteadlaw18.RightTells': WHATEVER THE INPUT: true; the input reads as it did. -/
def rightTellsSpec : ChangeSpec := { name := "rightTells", fn := fun _ => fun
  | [d1, d2, d3] => { results := [.lit (.bool true)], args := [d1, d2, d3] }
  | _ => none }
def rightTellsRow : OpenClaim := { program := "ytbcdgocepnkpeaagreat", sum := "5c898bcff92d1e78fa7a176354efcd6137f73c8eb63c0b40748c328a3527edb4", func := "homestead/homesteadlaw18.RightTells", spec := "rightTells", unfollowed := true, recurses := true, loops := true, plainKeys := false, apart := false }
def RightTellsSaid : Prop := rightTellsRow.holds Tryz.pinned (OpenSpec.ofChange rightTellsSpec)

/-- ITS FALSE NEIGHBOUR: 'it returns false'. Refute it at one input. -/
def rightTellsWrong : ChangeSpec := { name := "rightTells", fn := fun _ => fun
  | [d1, d2, d3] => { results := [.lit (.bool false)], args := [d1, d2, d3] }
  | _ => none }
def RightTellsWrongFalsely : Prop := rightTellsRow.holds Tryz.pinned (OpenSpec.ofChange rightTellsWrong)

/-- 'homesteadlaw18.RightHolds': WHATEVER THE INPUT: true; the input reads as it did. -/
def rightHoldsSpec : ChangeSpec := { name := "rightHolds", fn := fun _ => fun
  | [d1, d2, d3, d4, d5, d6] => { results := [.lit (.bool true)], args := [d1, d2, d3, d4, d5, d6] }
  | _ => none }
def rightHoldsRow : OpenClaim := { program := "ytbcdgocepnkpeaagreat", sum := "5c898bcff92d1e78fa7a176354efcd6137f73c8eb63c0b40748c328a3527edb4", func := "homestead/homesteadlaw18.RightHolds", spec := "rightHolds", unfollowed := true, recurses := true, loops := true, plainKeys := false, apart := false }
def RightHoldsSaid : Prop := rightHoldsRow.holds Tryz.pinned (OpenSpec.ofChange rightHoldsSpec)

/-- ITS FALSE NEIGHBOUR: 'it returns false'. Refute it at one input. -/
def rightHoldsWrong : ChangeSpec := { name := "rightHolds", fn := fun _ => fun
  | [d1, d2, d3, d4, d5, d6] => { results := [.lit (.bool false)], args := [d1, d2, d3, d4, d5, d6] }
  | _ => none }
def RightHoldsWrongFalsely : Prop := rightHoldsRow.holds Tryz.pinned (OpenSpec.ofChange rightHoldsWrong)

/-- 'homesteadlaw18.RightUses': WHATEVER THE INPUT: true; the input reads as it did. -/
def rightUsesSpec : ChangeSpec := { name := "rightUses", fn := fun _ => fun
  | [d1, d2, d3, d4, d5, d6, d7] => { results := [.lit (.bool true)], args := [d1, d2, d3, d4, d5, d6, d7] }
  | _ => none }
def rightUsesRow : OpenClaim := { program := "ytbcdgocepnkpeaagreat", sum := "5c898bcff92d1e78fa7a176354efcd6137f73c8eb63c0b40748c328a3527edb4", func := "homestead/homesteadlaw18.RightUses", spec := "rightUses", unfollowed := true, recurses := true, loops := true, plainKeys := false, apart := false }
def RightUsesSaid : Prop := rightUsesRow.holds Tryz.pinned (OpenSpec.ofChange rightUsesSpec)

/-- ITS FALSE NEIGHBOUR: 'it returns false'. Refute it at one input. -/
def rightUsesWrong : ChangeSpec := { name := "rightUses", fn := fun _ => fun
  | [d1, d2, d3, d4, d5, d6, d7] => { results := [.lit (.bool false)], args := [d1, d2, d3, d4, d5, d6, d7] }
  | _ => none }
def RightUsesWrongFalsely : Prop := rightUsesRow.holds Tryz.pinned (OpenSpec.ofChange rightUsesWrong)

/-- 'homesteadlaw18.RightHands': WHATEVER THE INPUT: true; the input reads as it did. -/
def rightHandsSpec : ChangeSpec := { name := "rightHands", fn := fun _ => fun
  | [d1, d2, d3, d4, d5] => { results := [.lit (.bool true)], args := [d1, d2, d3, d4, d5] }
  | _ => none }
def rightHandsRow : OpenClaim := { program := "ytbcdgocepnkpeaagreat", sum := "5c898bcff92d1e78fa7a176354efcd6137f73c8eb63c0b40748c328a3527edb4", func := "homestead/homesteadlaw18.RightHands", spec := "rightHands", unfollowed := true, recurses := true, loops := true, plainKeys := false, apart := false }
def RightHandsSaid : Prop := rightHandsRow.holds Tryz.pinned (OpenSpec.ofChange rightHandsSpec)

/-- ITS FALSE NEIGHBOUR: 'it returns false'. Refute it at one input. -/
def rightHandsWrong : ChangeSpec := { name := "rightHands", fn := fun _ => fun
  | [d1, d2, d3, d4, d5] => { results := [.lit (.bool false)], args := [d1, d2, d3, d4, d5] }
  | _ => none }
def RightHandsWrongFalsely : Prop := rightHandsRow.holds Tryz.pinned (OpenSpec.ofChange rightHandsWrong)

/- THE SECOND FORM. 'bulk': how many values and letters a reading holds, each counted each time it is reached (what is shared counts as often as it is met; a slice's spare places count too). A statement '..UptoSaid' is the law's where the arguments, and the package variables that the reading takes, are together of bulk at most 1048576: NARROWER than '..Said'. Prove '..Said' where nothing that the law and all that it calls make is longer than what came in: it says more and counts as full. Else prove '..UptoSaid'. A law counts once. -/
mutual
def uptoBulk {H : Type} : DataW H → Nat
  | .lit (.string bytes) => bytes.length + 1
  | .lit _ => 1
  | .nil => 1
  | .ptr d => uptoBulk d + 1
  | .slice elems spare => uptoBulkAll elems + uptoBulkAll spare + 1
  | .agg parts => uptoBulkAll parts + 1
  | .iface _ d => uptoBulk d + 1
  | .map entries => uptoBulkEntries entries + 1
  | .held _ => 1
def uptoBulkAll {H : Type} : List (DataW H) → Nat
  | [] => 0
  | d :: r => uptoBulk d + uptoBulkAll r
def uptoBulkEntries {H : Type} : List (Lit × DataW H) → Nat
  | [] => 0
  | x :: r => uptoBulkEntry x + uptoBulkEntries r
def uptoBulkEntry {H : Type} : Lit × DataW H → Nat
  | (.string bytes, d) => bytes.length + uptoBulk d + 1
  | (_, d) => uptoBulk d + 1
 end
def uptoSmall : (H : Type) → List (DataW H) → Bool := fun _ ds => decide (uptoBulkAll ds ≤ 1048576)
def OpenSpec.upto (s : _root_.Go.ChangeSpec) : _root_.Go.OpenSpec := { _root_.Go.OpenSpec.ofChange s with cond := some uptoSmall }

/-- 'homesteadlaw18.RightTells', WHERE WHAT IT READS IS OF BULK AT MOST 1048576: true; the input reads as it did. -/
def rightTellsUptoRow : OpenClaim := { program := "ytbcdgocepnkpeaagreat", sum := "5c898bcff92d1e78fa7a176354efcd6137f73c8eb63c0b40748c328a3527edb4", func := "homestead/homesteadlaw18.RightTells", spec := "rightTells", unfollowed := true, recurses := true, loops := true, plainKeys := false, apart := false, narrowed := true }
def RightTellsUptoSaid : Prop := rightTellsUptoRow.holds Tryz.pinned (OpenSpec.upto rightTellsSpec)

/-- 'homesteadlaw18.RightHolds', WHERE WHAT IT READS IS OF BULK AT MOST 1048576: true; the input reads as it did. -/
def rightHoldsUptoRow : OpenClaim := { program := "ytbcdgocepnkpeaagreat", sum := "5c898bcff92d1e78fa7a176354efcd6137f73c8eb63c0b40748c328a3527edb4", func := "homestead/homesteadlaw18.RightHolds", spec := "rightHolds", unfollowed := true, recurses := true, loops := true, plainKeys := false, apart := false, narrowed := true }
def RightHoldsUptoSaid : Prop := rightHoldsUptoRow.holds Tryz.pinned (OpenSpec.upto rightHoldsSpec)

/-- 'homesteadlaw18.RightUses', WHERE WHAT IT READS IS OF BULK AT MOST 1048576: true; the input reads as it did. -/
def rightUsesUptoRow : OpenClaim := { program := "ytbcdgocepnkpeaagreat", sum := "5c898bcff92d1e78fa7a176354efcd6137f73c8eb63c0b40748c328a3527edb4", func := "homestead/homesteadlaw18.RightUses", spec := "rightUses", unfollowed := true, recurses := true, loops := true, plainKeys := false, apart := false, narrowed := true }
def RightUsesUptoSaid : Prop := rightUsesUptoRow.holds Tryz.pinned (OpenSpec.upto rightUsesSpec)

/-- 'homesteadlaw18.RightHands', WHERE WHAT IT READS IS OF BULK AT MOST 1048576: true; the input reads as it did. -/
def rightHandsUptoRow : OpenClaim := { program := "ytbcdgocepnkpeaagreat", sum := "5c898bcff92d1e78fa7a176354efcd6137f73c8eb63c0b40748c328a3527edb4", func := "homestead/homesteadlaw18.RightHands", spec := "rightHands", unfollowed := true, recurses := true, loops := true, plainKeys := false, apart := false, narrowed := true }
def RightHandsUptoSaid : Prop := rightHandsUptoRow.holds Tryz.pinned (OpenSpec.upto rightHandsSpec)

end Rows
end Go.Proofs.YtbcdgocepnkpeaaGreat
