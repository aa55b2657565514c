import Derived.Test.YtcglimangneafaaGreatDoorBsShow
import Derived.Test.YtcglimangneafaaGreatDoorAbsI
import Derived.Test.YtcglimangneafaaGreatDoorAbsG
set_option linter.unusedSimpArgs false
set_option linter.unusedVariables false
namespace Go.Proofs.YtcglimangneafaaGreatDoor
open Go Go.Abs
attribute [local irreducible] Ev PWp
set_option maxRecDepth 10000
set_option maxHeartbeats 4000000
def adM (b:Bs) (k:Int) (ls:List Ln):Bs:=if okT b k then b.set k.toNat ⟨ls⟩ else b
theorem arA (b:Bs) (k:Int) (ls:List Ln):(adM b k ls).length=b.length:=by unfold adM;split<;>simp
end Go.Proofs.YtcglimangneafaaGreatDoor
namespace Go.Proofs.YtcglimangneafaaGreatDoor
open Go Go.Abs
theorem acI (L:List Ln) (k:Int):(∃j:Nat,∃h:j<L.length,atP L k=((j:Int),true)∧dH L k=some L[j]∧L[j].key=k∧∀q (hq:q<j),L[q].key≠k)∨
    (∃j:Nat,j≤L.length∧atP L k=((j:Int),false)∧dH L k=none∧(∀x∈L,x.key≠k)∧(∀q (hq:q<j) (h:q<L.length),¬L[q].key>k)∧∀h:j<L.length,L[j].key>k):=by
  unfold atP dH
  cases h:L.findIdx? fun x:Ln=>decide (x.key=k) with
  |some j=>
    left
    obtain ⟨hj,hf,hn⟩:=List.findIdx?_eq_some_iff_getElem.1 h
    refine ⟨j,hj, ?_,akI hj hf fun q hq h2=>by simpa using hn q hq,by simpa using hf,fun q hq=>by simpa using hn q hq⟩
    have e:dZ (fun x:Ln=>decide (x.key=k)) L=j:=by unfold dZ;rw [h]
    rw [e,if_pos (by omega)]
  |none=>
    right
    have e:dZ (fun x:Ln=>decide (x.key=k)) L= -1:=by unfold dZ;rw [h]
    have hne:∀x∈L,x.key≠k:=fun x hx=>by simpa using List.findIdx?_eq_none_iff.1 h x hx
    have hg:L.find? (fun x:Ln=>decide (x.key=k))=none:=List.find?_eq_none.2 fun x hx=>by rw [List.findIdx?_eq_none_iff.1 h x hx];simp
    rw [e,if_neg (by omega)]
    cases h2:L.findIdx? fun x:Ln=>decide (x.key>k) with
    |some j=>
      obtain ⟨hj,hf,hn⟩:=List.findIdx?_eq_some_iff_getElem.1 h2
      have e2:dZ (fun x:Ln=>decide (x.key>k)) L=j:=by unfold dZ;rw [h2]
      rw [e2,if_pos (by omega)]
      exact ⟨j,by omega,rfl,hg,hne,fun q hq hl=>by simpa using hn q hq,fun _=>by simpa using hf⟩
    |none=>
      have e2:dZ (fun x:Ln=>decide (x.key>k)) L= -1:=by unfold dZ;rw [h2]
      rw [e2,if_neg (by omega)]
      exact ⟨L.length,Nat.le_refl _,rfl,hg,hne,fun q hq hl=>by simpa using List.findIdx?_eq_none_iff.1 h2 L[q] (List.getElem_mem hl),fun h=>absurd h (Nat.lt_irrefl _)⟩
theorem arP (b:Bs) (k:Int) (a:Ln):ayB b k a=adM b k (acS (aV b k) a):=by
  unfold ayB adM;rfl
theorem amZ (b:Bs) (k key:Int):aqD b k key=adM b k (if (atP (aV b k) key).2 then (aV b k).eraseIdx (atP (aV b k) key).1.toNat else aV b k):=by
  unfold aqD adM
  split
  · rename_i h
    split
    · rfl
    · have h2:=h
      simp only [okT,Bool.and_eq_true,decide_eq_true_eq] at h2
      unfold aV
      rw [if_pos h]
      obtain ⟨q,rfl⟩:∃q:Nat,k=q:=⟨k.toNat,by omega⟩
      have hq:q<b.length:=by omega
      rw [Int.toNat_natCast,getElem!_pos b q hq]
      exact (List.set_getElem_self hq).symm
  · rfl
theorem aiG {L:List Ln} {j:Nat} {a:Ln} (h:j≤L.length):(nJ L j [a]).length=L.length+1:=by rw [adF h];rfl
end Go.Proofs.YtcglimangneafaaGreatDoor
namespace Go.Proofs.YtcglimangneafaaGreatDoor
open Go Go.Abs
attribute [local irreducible] Ev PWp
set_option maxRecDepth 10000
set_option maxHeartbeats 4000000
end Go.Proofs.YtcglimangneafaaGreatDoor
