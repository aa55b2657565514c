import Derived.Test.YtddmbnddgiebgaaGreatDoorBsRefS
set_option linter.unusedSimpArgs false
set_option linter.unusedVariables false
namespace Go.Proofs.YtddmbnddgiebgaaGreatDoor
open Go Go.Abs
theorem zZ {a b c:Dt} (h1:bQ b a=true) (h2:bQ c b=true):bQ c a=true:=by
  unfold bQ at*
  simp only [Bool.or_eq_true,Bool.and_eq_true,decide_eq_true_eq] at*
  omega
theorem aiU {a b:Dt} (h:bQ a b=false) (hne:a≠b):bQ b a=true:=by
  rw [Ne,Dt.ext_iff] at hne
  unfold bQ at*
  simp only [Bool.or_eq_true,Bool.and_eq_true,decide_eq_true_eq,Bool.or_eq_false_iff,Bool.and_eq_false_iff,decide_eq_false_iff_not] at*
  omega
def afQ (l:List Dt):Prop:=l.Pairwise fun a b=>bQ b a=true
def aiC (l:List Dt) (d:Dt):List Dt:=if d∈l then l else bY l (eF l d) [d]
theorem alO (l:Ln) (d:Dt):bP l d={l with by_:=aiC l.by_ d}:=by
  unfold bP aiC
  split<;>rfl
theorem ajK (l:List Dt) (d x:Dt):x∈aiC l d↔x=d∨x∈l:=by
  unfold aiC
  split
  · rename_i h
    exact ⟨.inr,fun q=>by rcases q with rfl|q<;>assumption⟩
  · unfold bY
    have e:=List.take_append_drop (eF l d) l
    conv=>rhs;rw [←e]
    simp only [List.mem_append,List.mem_singleton]
    grind
theorem agN {l:List Dt} (h:afQ l) (d:Dt):afQ (aiC l d):=by
  unfold aiC
  split
  · exact h
  rename_i hd
  unfold bY afQ
  have e:=List.take_append_drop (eF l d) l
  have hp:=h
  unfold afQ at hp
  rw [←e,List.pairwise_append] at hp
  have hlo:∀x∈l.take (eF l d),bQ d x=true:=fun x hx=>by
    obtain ⟨q,hq,rfl⟩:=List.getElem_of_mem hx
    rw [List.length_take] at hq
    rw [List.getElem_take]
    exact aiU (anB (by omega) (by omega)) fun q=>hd (q▸List.getElem_mem _)
  have hhi:∀x∈l.drop (eF l d),bQ x d=true:=fun x hx=>by
    obtain ⟨q,hq,rfl⟩:=List.getElem_of_mem hx
    rw [List.length_drop] at hq
    rw [List.getElem_drop]
    have h0:=alA (L:=l) rfl (show eF l d<l.length by omega)
    rcases Nat.eq_zero_or_pos q with rfl|hq0
    · exact h0
    · exact zZ h0 (List.pairwise_iff_getElem.1 h _ _ (by omega) (by omega) (by omega))
  rw [List.pairwise_append,List.pairwise_append]
  refine ⟨⟨hp.1,List.pairwise_singleton ..,fun x hx y hy=> ?_⟩,hp.2.1,fun x hx y hy=> ?_⟩
  · rw [List.mem_singleton.1 hy];exact hlo x hx
  · rcases List.mem_append.1 hx with q|q
    · exact hp.2.2 x q y hy
    · rw [List.mem_singleton.1 q];exact hhi y hy
def upR (l:List Dt) (k:Nat):Bool:=decide (k=0)||bQ l[k]! l[k-1]!
theorem aqX {l:List Dt} (h:∀k<l.length,upR l k=true):afQ l:=by
  have key:∀j (hj:j<l.length) i (hi:i<j),bQ l[j] (l[i]'(by omega))=true:=by
    intro j
    induction j with
    |zero=>intro _ i hi;exact absurd hi (Nat.not_lt_zero _)
    |succ j ih=>
      intro hj i hi
      have:=h (j+1) hj
      unfold upR at this
      rw [getElem!_pos l (j+1) hj,show j+1-1=j from rfl,getElem!_pos l j (by omega)] at this
      have this:bQ l[j+1] l[j]=true:=by simpa using this
      rcases Nat.lt_succ_iff_lt_or_eq.1 hi with q|q
      · exact zZ (ih (by omega) i q) this
      · subst q;exact this
  exact List.pairwise_iff_getElem.2 fun i j hi hj hij=>key j hj i hij
end Go.Proofs.YtddmbnddgiebgaaGreatDoor
