import Derived.Test.YtddmbnddgiebgaaGreatDoorCaDelS
set_option linter.unusedSimpArgs false
set_option linter.unusedVariables false
namespace Go.Proofs.YtddmbnddgiebgaaGreatDoor
open Go Go.Abs
def oT (t:Tb) (G:R2→Bool) (l:Ln) (c:Int):Bool:=t.foreign.any fun f=>decide (f.col=c)&&bU G l f
theorem jQ {t:Tb} {G:R2→Bool} {l:Ln} {c:Int}:oT t G l c=true↔∃f∈t.foreign,f.col=c∧bU G l f=true:=by
  unfold oT
  rw [List.any_eq_true]
  simp only [Bool.and_eq_true,decide_eq_true_eq]
theorem rV {t:Tb} {G:R2→Bool} {l:Ln}:mP t G l=true↔∃f∈t.foreign,bU G l f=true:=by
  unfold mP
  rw [List.any_eq_true]
theorem ajK {t:Tb} {G:R2→Bool} {l:Ln} {bys:List Dt} (c:Int):ptP ⟨l.key,dA (bU G l) t.foreign l.cells_,bys⟩ c=if oT t G l c=true then none else ptP l c:=by
  by_cases hc:0≤c∧c<l.cells_.length
  · obtain ⟨j,rfl⟩:∃j:Nat,c=j:=⟨c.toNat,by omega⟩
    have hj:j<l.cells_.length:=by omega
    have hj2:j<(dA (bU G l) t.foreign l.cells_).length:=by rw [bY];exact hj
    rw [pC hj,pC (l:=⟨l.key,dA (bU G l) t.foreign l.cells_,bys⟩) hj2]
    show (if (dA (bU G l) t.foreign l.cells_)[j].val.kind=1 then some (dA (bU G l) t.foreign l.cells_)[j].val.n else none)=_
    rw [gY hj]
    unfold oT
    by_cases h:(t.foreign.any fun f=>decide (f.col=(j:Int))&&bU G l f)=true
    · rw [if_pos h,if_pos h];rfl
    · rw [if_neg h,if_neg h]
  · rw [mR hc,mR]
    · split<;>rfl
    · show ¬(0≤c∧c<(dA (bU G l) t.foreign l.cells_).length)
      rwa [bY]
theorem aaY {t:Tb} {G:R2→Bool} {who:Dt} {l:Ln} (c:Int):ptP (cV t G who l) c=if oT t G l c=true then none else ptP l c:=by
  unfold cV
  by_cases h:mP t G l=true
  · rw [if_pos h,ajK]
  · rw [if_neg h,if_neg]
    intro q
    obtain ⟨f,hf,_,hh⟩:=jQ.1 q
    exact h (rV.2 ⟨f,hf,hh⟩)
theorem sG (t:Tb) (G:R2→Bool) (who:Dt) (l:Ln):(cV t G who l).key=l.key:=by unfold cV;split<;>rfl
theorem pT {s:Sc} {b:Bs} {G:R2→Bool} {who:Dt} {k:Nat} (hk:k<b.length):(kD s b G who)[k]!.lines=kC s b G who k:=by
  have h:k<(kD s b G who).length:=by simpa [kD] using hk
  rw [getElem!_pos _ k h]
  simp [kD]
theorem nJ (s:Sc) (b:Bs) (G:R2→Bool) (who:Dt):(kD s b G who).length=b.length:=by simp [kD]
theorem nP {s:Sc} {b:Bs} {G:R2→Bool} {who:Dt} {k:Nat} {x:Ln}:x∈kC s b G who k↔∃l∈b[k]!.lines,G ((k:Int),l.key)=false∧x=cV s[k]! G who l:=by
  unfold kC
  simp only [List.mem_map,List.mem_filter,Bool.not_eq_true']
  exact ⟨fun ⟨l,⟨h1,h2⟩,e⟩=>⟨l,h1,h2,e.symm⟩,fun ⟨l,h1,h2,e⟩=>⟨l,⟨h1,h2⟩,e.symm⟩⟩
section
variable {s:Sc} {b:Bs} {G:R2→Bool} {who:Dt}
end
theorem adX {rb:Bool} {s:Sc} {b:Bs} {z:R2} {who:Dt} {M:List R2} (h:(kK rb s b z who M).2=0):rb=true∧fJ b z=true∧nQ s b (inR M)=true∧(kK rb s b z who M).1=kD s b (inR M) who:=by
  unfold kK at h⊢
  cases rb with
  |false=>simp at h
  |true=>
    rw [if_pos rfl] at h⊢
    by_cases h1:fJ b z=true
    · rw [if_pos h1] at h⊢
      by_cases h2:nQ s b (inR M)=true
      · rw [if_pos h2];exact ⟨rfl,h1,h2,rfl⟩
      · rw [if_neg h2] at h;simp at h
    · rw [if_neg h1] at h;simp at h
end Go.Proofs.YtddmbnddgiebgaaGreatDoor
