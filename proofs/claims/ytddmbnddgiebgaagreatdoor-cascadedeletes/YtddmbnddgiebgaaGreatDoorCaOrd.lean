import Derived.Test.YtddmbnddgiebgaaGreatDoorCaDelS
set_option linter.unusedSimpArgs false
set_option linter.unusedVariables false
namespace Go.Proofs.YtddmbnddgiebgaaGreatDoor
open Go Go.Abs
theorem aoT (s:Sc) (b:Bs) (G:R2→Bool) (who:Dt):(xL s b G who).length=b.length:=by simp [xL]
theorem alK {s:Sc} {b:Bs} {G:R2→Bool} {who:Dt} {k:Nat} {x:Ln}:x∈kK s b G who k↔∃l∈b[k]!.lines,G ((k:Int),l.key)=false∧x=iH s[k]! G who l:=by
  unfold kK
  simp only [List.mem_map,List.mem_filter,Bool.not_eq_true']
  exact ⟨fun ⟨l,⟨h1,h2⟩,e⟩=>⟨l,h1,h2,e.symm⟩,fun ⟨l,h1,h2,e⟩=>⟨l,⟨h1,h2⟩,e.symm⟩⟩
section
variable {s:Sc} {b:Bs} {G:R2→Bool} {who:Dt}
end
end Go.Proofs.YtddmbnddgiebgaaGreatDoor
