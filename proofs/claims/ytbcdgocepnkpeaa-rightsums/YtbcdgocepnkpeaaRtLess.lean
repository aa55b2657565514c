import Derived.Test.YtbcdgocepnkpeaaRtClosed
set_option linter.unusedSimpArgs false
set_option linter.unusedVariables false
namespace Go.Proofs.Ytbcdgocepnkpeaa
open Go Go.Abs
attribute [local irreducible] Ev PWp
set_option maxRecDepth 10000
set_option maxHeartbeats 4000000
def two (x y : Sn) : List Sn := [⟨y.lo, min y.hi x.lo⟩, ⟨max y.lo x.hi, y.hi⟩]
def keepS (l : List Sn) : List Sn := l.filter fun z => decide (z.lo < z.hi)
def lessP (x : Sn) : List Sn → List Sn
  | [] => []
  | y :: l => keepS (two x y) ++ lessP x l
theorem lessP_len (x : Sn) (l : List Sn) : (lessP x l).length ≤ 2 * l.length := by
  induction l with
  | nil => simp [lessP]
  | cons y l ih =>
    have : (keepS (two x y)).length ≤ 2 := List.length_filter_le _ _
    rw [lessP, List.length_append, List.length_cons]; omega
structure LS (st : Store) (b : Option (Nat × List Sn)) (S : Store) : Prop where
  arr : ∀ y, b = some y → S y.1 = some (.arr 80 (y.2.map Sn.cells)) ∧ st y.1 = none
  old : ∀ j, st j ≠ none → S j = st j
theorem LS.zero {st : Store} {b : Option (Nat × List Sn)} {S : Store} (h : LS st b S) {i' : Nat} (hi : S i' = none) (l : List Sn) : LS st (some (i', l)) (upd S i' (some (.arr 80 (l.map Sn.cells)))) := by
  have hs : st i' = none := Decidable.byContradiction fun q => q (by rw [← h.old _ q]; exact hi)
  refine ⟨fun y e => ?_, fun j hj => by rw [upd_ne fun e => hj (by rw [e]; exact hs)]; exact h.old j hj⟩
  injection e with e; subst e
  exact ⟨upd_same _ _ _, hs⟩
theorem LS.grow {st : Store} {y : Nat × List Sn} {S : Store} (h : LS st (some y) S) {i' : Nat} (hi : S i' = none) (l : List Sn) : LS st (some (i', l)) (upd (upd S y.1 none) i' (some (.arr 80 (l.map Sn.cells)))) := by
  have hs : st i' = none := Decidable.byContradiction fun q => q (by rw [← h.old _ q]; exact hi)
  refine ⟨fun y e => ?_, fun j hj => ?_⟩
  · injection e with e; subst e
    exact ⟨upd_same _ _ _, hs⟩
  · rw [upd_ne fun e => hj (by rw [e]; exact hs), upd_ne fun e => hj (by rw [e]; exact (h.arr y rfl).2)]; exact h.old j hj
end Go.Proofs.Ytbcdgocepnkpeaa
