import Derived.Test.YtddmbnddgiebgaaGreatDoorCaNull
set_option linter.unusedSimpArgs false
set_option linter.unusedVariables false
namespace Go.Proofs.YtddmbnddgiebgaaGreatDoor
open Go Go.Abs
attribute [local irreducible] Ev PWp
set_option maxRecDepth 10000
set_option maxHeartbeats 4000000
theorem aoP {t:Tb} {G:R2→Bool} {l:Ln} (h:∀f∈t.foreign,bI G l f=true→f.act=0∨f.act=2):lG t G l= !toB t l G 0:=by
  rw [Bool.eq_iff_iff,Bool.not_eq_true',←Bool.not_eq_true,yB]
  unfold lG
  rw [List.all_eq_true]
  constructor
  · rintro q ⟨f,hf,h1,h2⟩
    have:=q f hf
    rw [h1,h2] at this;cases this
  · intro q f hf
    cases hh:bI G l f with
    |false=>rfl
    |true=>
      rcases h f hf hh with e|e
      · exact absurd ⟨f,hf,hh,e⟩ q
      · rw [e];rfl
end Go.Proofs.YtddmbnddgiebgaaGreatDoor
