import Derived.Test.YtbcdgocepnkpeaaGreatRtHandS
set_option linter.unusedSimpArgs false
set_option linter.unusedVariables false
namespace Go.Proofs.YtbcdgocepnkpeaaGreat
open Go Go.Abs
theorem hand_pc (s : Sc) (hs : FewS s) (o : List Ow) (ho : FewO o) (a b : Int) (r : Rt) (st : Store) : PC Tryz.prog 22 [.agg (scC s), .seq (o.map Ow.cells), (PV.val (Value.int .i64 (a))), (PV.val (Value.int .i64 (b))), .agg r.cells] st fun q S => S = st ∧ ∃ l e, q = .tup [.seq (l.map Ow.cells), (PV.val (Value.int .i64 (e)))] ∧ HandOf s o a b r l e := by
  by_cases h : HandArg s o a b ∧ rightE s r = 0 ∧ holdsP s o a r = true
  · obtain ⟨h1, h2, h3⟩ := h
    by_cases hk : r.kind = 3
    · exact hand3_pc s hs o ho a b r st h1 h2 h3 hk
    · exact handS_pc s hs o ho a b r st h1 h2 h3 hk
  · exact hand0_pc s hs o ho a b r st h
end Go.Proofs.YtbcdgocepnkpeaaGreat
