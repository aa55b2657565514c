import Derived.Test.YtcglimangneafaaGreatDoorCkR5
import Derived.Test.YtcglimangneafaaGreatDoorCkFewS
import Derived.Test.YtcglimangneafaaGreatDoorCkKeysS
import Derived.Test.YtcglimangneafaaGreatDoorCkAwake
set_option linter.unusedSimpArgs false
set_option linter.unusedVariables false
namespace Go.Proofs.YtcglimangneafaaGreatDoor
open Go Go.Abs
attribute [local irreducible] Ev PWp
set_option maxRecDepth 10000
set_option maxHeartbeats 4000000
theorem aaA (s:Sc) (b:Bs) (table sum group:Int) (hs:ScG s) (hb:BsB b):PF Tryz.prog 3 [.agg (scC s), .agg (bsC b),(PV.val (Value.int .i64 (table))),(PV.val (Value.int .i64 (sum))),(PV.val (Value.int .i64 (group)))] (PV.val (Value.bool (true))):=by
  have hA:=aaY
  have hf:=ahG s b hs.l hs.b hs.k hb
  cases g1:fewC s b with
  |false=>
    rw [g1] at hf
    refine aH aD Tryz.func3 (by kernel_rfl) rfl rfl rfl rfl (fun st=> ?_)
    (try (apply wO pk;exact rfl));(repeat' (first|(show All _;constructor)|(show Imp _ _;constructor)|(apply wC pk;(iterate 2 exact rfl))|(apply wE pk;(iterate 2 exact rfl))|(refine aA rfl (fun h=> ?_) (fun h=> ?_)<;>(try simp at h)<;>try (exfalso;omega))|(refine aB ?_;refine ⟨_,_,_,rfl,Wk.refl _,StSub.refl _, ?_,rfl⟩;try rfl)|(apply aI;(iterate 3 exact rfl);(intro _;(first|apply hA|apply hf)<;>first|assumption|omega);rotate_left;(iterate 2 exact rfl))))
  |true=>
  rw [g1] at hf
  have hB:=CkB.of g1 hs.b hs.k
  have h1:=hB.right
  have h2:=adU hB
  have h3:=xL hB table sum group
  have h4:=hB.rright
  have h5:=anI hB
  have h6:=acR hB table sum group
  generalize rightC s=R at*
  generalize whyC s b=W at*
  generalize totC s b table sum group=N at*
  refine aH aD Tryz.func3 (by kernel_rfl) rfl rfl rfl rfl (fun st=> ?_)
  (try (apply wO pk;exact rfl));(repeat' (first|(show All _;constructor)|(show Imp _ _;constructor)|(show ImpX _ _ _ _;constructor)|(apply wC pk;(iterate 2 exact rfl))|(apply wE pk;(iterate 2 exact rfl))|(apply wD pk [] [];kernel_rfl;exact rfl;exact rfl)|(refine aA rfl (fun h=> ?_) (fun h=> ?_)<;>(try simp at h)<;>try (exfalso;omega))|(refine aB ?_;refine ⟨_,_,_,rfl,Wk.refl _,StSub.refl _, ?_,rfl⟩;try first|rfl|((simp;done);done))|(apply aI;(iterate 3 exact rfl);(intro _;(first|apply hA|apply hf|apply h1|apply h2|apply h3|apply h4|apply h5|apply h6)<;>first|assumption|omega);rotate_left;(iterate 2 exact rfl))))
end Go.Proofs.YtcglimangneafaaGreatDoor
