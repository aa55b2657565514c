import Derived.Test.YtddmbnddgiebgaaGreatDoorTyC
set_option linter.unusedSimpArgs false
set_option linter.unusedVariables false
namespace Go.Proofs.YtddmbnddgiebgaaGreatDoor.T
open Go Go.Abs
attribute [local irreducible] Ev PWp
set_option maxRecDepth 10000
set_option maxHeartbeats 1000000
def atP (l:List Pt) (k:Nm):Int:=match l.findIdx? (fun p=>decide (bA p=k)) with|some j=>((j:Nat):Int)|none=> -1
end Go.Proofs.YtddmbnddgiebgaaGreatDoor.T
namespace Go.Proofs.YtddmbnddgiebgaaGreatDoor.T
open Go Go.Abs
attribute [local irreducible] Ev PWp
set_option maxRecDepth 10000
set_option maxHeartbeats 4000000
theorem Anc.pre {l:List Pt} {p:Pt} {s:List Pt} (h:Anc l p s):∀(c:Nat) (hc:c<s.length),Anc l s[c] (s.take (c+1)):=by
  induction h with
  |root hp h0=>
    intro c hc
    have:c=0:=by simpa using hc
    subst this;exact .root hp h0
  | @step p u r hp hu e h0 h ih=>
    intro c hc
    by_cases h1:c<r.length
    · have:=ih c h1
      rw [List.getElem_append_left h1,List.take_append_of_le_length (by omega)];exact this
    · have:c=r.length:=by simp at hc;omega
      subst this
      rw [List.take_of_length_le (by simp)]
      simp only [List.getElem_append_right (Nat.le_refl _),Nat.sub_self,List.getElem_singleton]
      exact .step hp hu e h0 h
theorem Anc.len {l:List Pt} (hW:Whole l) {p:Pt} {s:List Pt} (h:Anc l p s):s.length≤(l.filter fun q=>dR q p).length+1:=by
  induction h with
  |root=>simp
  | @step p u r hp hu e h0 h ih=>
    rw [List.length_append,List.length_singleton]
    obtain ⟨v,hv,e2,ha⟩:=(hW.up p hp).resolve_left h0
    have:u=v:=hW.named u hu v hv (by rw [e,e2])
    subst this
    have:=mF (f:=fun q=>dR q u) (g:=fun q=>dR q p) (a:=u) hu ha (by rw [←Bool.not_eq_true,fN];omega) fun q _ hq=>by
      rw [fN] at ha hq⊢;omega
    omega
theorem Anc.le {l:List Pt} (hW:Whole l) {p:Pt} {s:List Pt} (h:Anc l p s):s.length≤l.length+1:=by
  have:=h.len hW
  have:=List.length_filter_le (fun q=>dR q p) l
  omega
end Go.Proofs.YtddmbnddgiebgaaGreatDoor.T
namespace Go.Proofs.YtddmbnddgiebgaaGreatDoor.T
open Go Go.Abs
attribute [local irreducible] Ev PWp
set_option maxRecDepth 10000
set_option maxHeartbeats 4000000
section
variable {P:Program} {tt:TT} {l:List Oper} {d:Md} {r:List Oper} {s:St} {K:St→Prop} {t:Nat} {ty:TypeId} {pos:String} {after:Array Edge}
theorem asI {α:Type} {f:α→List PV} (pk:Pk P tt) (z0:α) {T e:TypeId} {x y:Operand} {kx ky:IntKind} {n B sz:Nat} {z:List Value} {a b:Int} (hx:opd s x=some (.val (.int kx a))) (hy:opd s y=some (.val (.int ky b))) (hk:tiK tt T=some (.slice e)) (hs:aW tt e=some sz) (hz:tiZ tt e=some z) (hzl:z.length=sz) (hpos:Nat.blt 0 sz=true) (hf0:z.map .val=f z0) (hf:bX s [x,y]=true) (hd:Nat.blt t s.n=true) (ht:iO d l r=true)
    (ha:a=n) (hb':b=n) (hB:P.bytesOf e=B) (hb:n*B≤140737488355328) (h62:n<4611686018427387904) (k:∀id,s.st id=none→Ev P l d r ((s.sst (upd s.st id (some (.arr e ((List.replicate n z0).map f))))).pv t (.vec id sz 0 n)) K):Ev P l d (⟨some t, .makeSlice T x y,ty,pos,after,none⟩::r) s K:=by
  subst ha hb'
  refine eB (mU pk.htt hx hy hk hs hz hzl (by simpa [Nat.blt_eq] using hpos) hB hb h62) (fun z hz=>aX (fun _ _ _ e=>by cases e) hz) hf hd ht fun zz hzz=> ?_
  obtain ⟨id,h1,rfl⟩:=hzz
  have:=k id h1
  rw [List.map_replicate,←hf0] at this
  exact this
end
end Go.Proofs.YtddmbnddgiebgaaGreatDoor.T
namespace Go.Proofs.YtddmbnddgiebgaaGreatDoor.T
open Go Go.Abs
attribute [local irreducible] Ev PWp
set_option maxRecDepth 10000
set_option maxHeartbeats 4000000
end Go.Proofs.YtddmbnddgiebgaaGreatDoor.T
