/-
  CheckSums of the given Leango.
-/
import Derived.Test.YtcglimangneafaaGreatDoorCkClaim4a
import Derived.Test.YtcglimangneafaaGreatDoorTie
import Derived.Test.YtcglimangneafaaGreatDoorCards
import Derived.SevenTiedAt
set_option linter.unusedSimpArgs false
set_option linter.unusedVariables false
namespace Go.Proofs.YtcglimangneafaaGreatDoor
open Go Go.Abs Go.ChangeShapes Go.WideShapes Go.ChangeAt Go.RowKit
set_option maxRecDepth 100000
theorem ayN :Tryz.checked.prog.funcNamed Rows.checkSumsRow.func=some 7:=by kernel_rfl
theorem azG :Tryz.f7.isInstance Tryz.checked.prog Rows.checkSumsRow.origin Rows.checkSumsRow.targs:=(of_decide_eq_true (by kernel_rfl))
theorem ayV :Tryz.f7.isWrapper Tryz.checked.prog Rows.checkSumsRow.wrapper Rows.checkSumsRow.mainSum:=(by unfold Func.isWrapper;first|(rw [if_pos (by decide+kernel)];kernel_rfl)|(rw [if_neg (by decide+kernel)];exact ⟨rfl,rfl⟩))
theorem ayO :joinedFacts Tryz.checked.prog 7 Tryz.f7 Rows.checkSumsSpec Rows.checkSumsRow=true:=by kernel_rfl
theorem eT :Rows.CheckSumsSaid:=
  OpenClaim.holds_of_wide 7 Tryz.f7 rfl rfl rfl rfl rfl rfl rfl ⟨rfl,rfl,rfl,rfl,rfl⟩ rfl rfl rfl rfl rfl ayN Tryz.func7 ayO azG ayV
    (fun os started H enc _=>lJ os started H enc)
theorem proved :Rows.CheckSumsCardSaid:=
  Claim7.holds_tied_plain_at .later [] [.data, .pinned] true (true, "735ff2812a370ecee00dbd3473f48f960602603ee4e519847f1b3baa9c4125fc") false
    eT (fun _ h=>by cases h) (by kernel_rfl) (fun _ h=>by cases h) checkSums_row_tie rfl ⟨rfl,rfl⟩ (by kernel_rfl) rfl
    (fun f fn hf hfn=>by
      obtain rfl : f = 7 := Option.some.inj ((show Tryz.prog.funcNamed "homestead/homesteadlaw14.CheckSums" = some 7 by kernel_rfl).symm.trans hf) |>.symm
      obtain rfl:fn=Tryz.f7:=(Option.some.inj (Tryz.func7.symm.trans hfn)).symm
      exact ⟨by kernel_rfl,fun j t ht=>by
        rw [Tryz.params7] at ht
        have hm:=List.mem_of_getElem? (l:=Tryz.f7.params.toList) (by rw [Tryz.params7];simpa using ht)
        rw [Tryz.params7] at hm
        simp only [List.mem_cons,List.not_mem_nil,or_false] at hm
        rcases hm with rfl|rfl|rfl|rfl|rfl|rfl<;>exact (show Tryz.prog.wantsStandIn _=false by kernel_rfl)⟩)
    (by kernel_rfl)
end Go.Proofs.YtcglimangneafaaGreatDoor
