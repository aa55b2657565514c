import Derived.Test.YtcglimangneafaaGreatDoorBsShow
import Derived.Test.YtcglimangneafaaGreatDoorIns
import Derived.Test.YtcglimangneafaaGreatDoorTyC
import Derived.Test.YtcglimangneafaaGreatDoorBsPutS
set_option linter.unusedSimpArgs false
set_option linter.unusedVariables false
namespace Go.Proofs.YtcglimangneafaaGreatDoor
open Go Go.Abs
attribute [local irreducible] Ev PWp
set_option maxRecDepth 10000
set_option maxHeartbeats 4000000
def cA (a b:Vl):Bool:=if a.kind≠b.kind then decide (a.kind<b.kind) else if a.n≠b.n then decide (a.n<b.n) else Op.bytesLess a.s.toList b.s.toList
def pX (a b:Vl):Bool:= !cA a b&& !cA b a
theorem oS (a b:Vl):PF Tryz.prog 183 [.agg a.cells, .agg b.cells] (PV.val (Value.bool (cA a b))):=by
  unfold cA
  refine aH aD Tryz.func183 (by kernel_rfl) rfl rfl rfl rfl (fun st=> ?_)
  (try (apply wO pk;exact rfl));(repeat' (first|(show All _;constructor)|(apply wC pk;(iterate 2 exact rfl))|(refine aA rfl (fun h=> ?_) (fun h=> ?_)<;>(try simp at h)<;>try (exfalso;omega))|(refine aB ?_;refine ⟨_,_,_,rfl,Wk.refl _,StSub.refl _, ?_,rfl⟩;try first|rfl|((simp [*];done);done))))
theorem ahK (a b:Vl):PF Tryz.prog 184 [.agg a.cells, .agg b.cells] (PV.val (Value.bool (pX a b))):=by
  have h1:=oS a b
  have h2:=oS b a
  unfold pX
  refine aH aD Tryz.func184 (by kernel_rfl) rfl rfl rfl rfl (fun st=> ?_)
  (try (apply wO pk;exact rfl));(repeat' (first|(show All _;constructor)|(show Imp _ _;constructor)|(show ImpX _ _ _ _;constructor)|(apply wE pk;(iterate 2 exact rfl))|(refine aB ?_;refine ⟨_,_,_,rfl,Wk.refl _,StSub.refl _, ?_,rfl⟩;try rfl)|(apply aI;(iterate 3 exact rfl);(intro _;(first|apply h1|apply h2)<;>first|assumption|omega);rotate_left;(iterate 2 exact rfl))))
def atV (o:List Vl) (v:Vl):Nat:=(o.findIdx? fun x=> !cA x v).getD o.length
def tU (o:List Vl) (v:Vl):List Vl:=if atV o v<o.length∧pX o[atV o v]! v=true then o else cM o (atV o v) [v]
def eP (l:List Pt):List Vl:=l.foldl (fun o p=>tU o p.val) []
theorem asN (o:List Vl) (v:Vl):atV o v≤o.length:=by
  unfold atV
  cases h:o.findIdx? fun x=> !cA x v with
  |none=>exact Nat.le_refl _
  |some k=>exact Nat.le_of_lt (List.findIdx?_eq_some_iff_getElem.1 h).1
theorem apO {o:List Vl} {v:Vl} {a:Nat} (ha:a≤o.length) (h1:∀j (h:j<o.length),j<a→cA o[j] v=true) (h2:∀h:a<o.length,cA o[a] v=false):atV o v=a:=by
  unfold atV
  rcases Nat.lt_or_ge a o.length with h|h
  · rw [List.findIdx?_eq_some_iff_getElem.2 ⟨h,by rw [h2 h];rfl,fun j hj=>by rw [h1 j (by omega) hj];simp⟩];rfl
  · rw [List.findIdx?_eq_none_iff.2 fun x hx=>by
      obtain ⟨j,hj,rfl⟩:=List.getElem_of_mem hx
      rw [h1 j hj (by omega)];rfl]
    show o.length=a
    omega
theorem atM (o:List Vl) (v:Vl):(tU o v).length≤o.length+1:=by
  unfold tU
  split
  · omega
  · rw [tE (asN o v)];exact Nat.le_refl _
theorem abC {l:List Pt} {i:Nat} (h:i<l.length):eP (l.take (i+1))=tU (eP (l.take i)) l[i].val:=by
  unfold eP
  rw [List.take_succ_eq_append_getElem h,List.foldl_append];rfl
theorem afL (l:List Pt):(eP l).length≤l.length:=by
  have key:∀i,i≤l.length→(eP (l.take i)).length≤i:=by
    intro i
    induction i with
    |zero=>intro _;simp [eP]
    |succ i ih=>
      intro h
      rw [abC (by omega)]
      have:=atM (eP (l.take i)) l[i].val
      have:=ih (by omega)
      omega
  have:=key l.length (Nat.le_refl _)
  rwa [List.take_length] at this
theorem avD (c:Cl) (hl:c.parts.length<1000000000) (st:aL):PC Tryz.prog 139 [.agg c.cells] st fun r S=>∃id,r= .vec id 3 0 (eP c.parts).length∧st id=none∧S=upd st id (some (.arr 47 ((eP c.parts).map Vl.cells))):=by
  refine eH aD Tryz.func139 (by kernel_rfl) rfl rfl rfl rfl ?_
  focus ((try (apply wO pk;exact rfl));(repeat' ((show All _;constructor))))
  refine jH 3 47 3 rfl rfl rfl (fun id hid=> ?_)
  refine aJ (X:={x:Nat×Nat×List Vl//x.1≤c.parts.length∧st x.2.1=none∧x.2.2=eP (c.parts.take x.1)}) (fun i=>(((((St.nil 51 (upd st i.1.2.1 (some (.arr 47 (i.1.2.2.map Vl.cells))))).pv 3 (.vec i.1.2.1 3 0 i.1.2.2.length)).pv 8 (.seq (c.parts.map Pt.cells))).pv 9 ((PV.val (Value.int .i64 (((c.parts.map Pt.cells).length:Nat)))))).pv 10 ((PV.val (Value.int .i64 ((i.1.1:Nat))))))) (fun i=>c.parts.length-i.1.1) ⟨(0,id,[]),by simp,hid,rfl⟩ ?_ (fun i=> ?_)
  · dsimp only
    (((repeat (refine Sub.pv ?_ rfl));(exact Sub.nil _ _ _ (StSub.refl _) rfl)))
  obtain ⟨⟨i,id,o⟩,hi,hid,ho⟩:=i
  simp only at hi hid ho
  dsimp only
  have hol:o.length≤i:=by rw [ho];have:=afL (c.parts.take i);rw [List.length_take] at this;omega
  by_cases hend:c.parts.length≤i
  have e:o=eP c.parts:=by rw [ho,List.take_of_length_le hend]
  subst e
  focus ((try (apply wO pk;exact rfl));(repeat' (first|(show All _;constructor)|(apply wC pk;(iterate 2 exact rfl))|(refine aA rfl (fun h=> ?_) (fun h=> ?_)<;>(try simp at h)<;>try (exfalso;omega))|((try refine aB ?_);((refine ⟨_,_,_,rfl,Wk.refl _,StSub.refl _, ?_⟩;(exact ⟨id,rfl,hid,rfl⟩);done))))))
  have hil:i<c.parts.length:=by omega
  have hu:=abC hil
  rw [←ho] at hu
  focus ((try (apply wO pk;exact rfl));(repeat' (first|(show All _;constructor)|(show Imp _ _;constructor)|(apply wC pk;(iterate 2 exact rfl))|(apply wE pk;(iterate 2 exact rfl))|(refine aA rfl (fun h=> ?_) (fun h=> ?_)<;>(try simp at h)<;>try (exfalso;omega))|(apply aM pk;(iterate 6 exact rfl);rotate_left;exact rfl;(intro hw;exact rfl);(intro hw;apply aF<;>omega);(intro _;exact rfl);exact rfl)|(intros;(try simp only [zql]);omega))))
  refine aJ (X:={x:Nat//x≤o.length∧∀j (h:j<o.length),j<x→cA o[j] c.parts[i].val=true}) (fun y=>(((((((St.nil 51 (upd st id (some (.arr 47 (o.map Vl.cells))))).pv 3 (.vec id 3 0 o.length)).var 5 166 (c.parts[i].cells)).pv 6 ((PV.val (Value.int .i64 ((y.1:Nat)))))).pv 8 (.seq (c.parts.map Pt.cells))).pv 9 ((PV.val (Value.int .i64 (((c.parts.map Pt.cells).length:Nat)))))).pv 10 ((PV.val (Value.int .i64 ((i:Nat))))))) (fun y=>o.length-y.1) ⟨0,by omega,by omega⟩ ?_ (fun y=> ?_)
  · (((repeat (first|refine Sub.pv ?_ rfl|refine Sub.var ?_ rfl rfl));(exact Sub.nil _ _ _ (StSub.refl _) rfl)))
  obtain ⟨a,ha,hA⟩:=y
  dsimp only
  by_cases hlt:a<o.length
  have ea:o.toArray[a]! =o[a]:=by rw [getElem!_pos o.toArray a (by simpa using hlt)];simp
  have hless:=oS o.toArray[a]! c.parts[i].val
  have hsame:=ahK o.toArray[a]! c.parts[i].val
  have hup:cA o[a] c.parts[i].val=true→∀j (h:j<o.length),j<a+1→cA o[j] c.parts[i].val=true:=fun h j hj hja=>by
    rcases Nat.lt_succ_iff_lt_or_eq.1 hja with q|q
    · exact hA j hj q
    · subst q;exact h
  have hat:=fun h:cA o[a] c.parts[i].val=false=>apO (v:=c.parts[i].val) ha hA fun _=>h
  have hIf:tU o c.parts[i].val=if atV o c.parts[i].val<o.length∧pX o[atV o c.parts[i].val]! c.parts[i].val=true then o else cM o (atV o c.parts[i].val) [c.parts[i].val]:=rfl
  cases hF:cA o[a] c.parts[i].val with
  |true=>
    rw [show cA o.toArray[a]! c.parts[i].val=true from by rw [ea];exact hF] at hless
    have hA2:=hup hF
    (try (apply wO pk;exact rfl));(repeat' (first|(show All _;constructor)|(show Imp _ _;constructor)|(show ImpX _ _ _ _;constructor)|(apply wC pk;(iterate 2 exact rfl))|(apply wE pk;(iterate 2 exact rfl))|(apply wDx pk;exact rfl;kernel_rfl;exact rfl;exact rfl)|(refine aA rfl (fun h=> ?_) (fun h=> ?_)<;>(try simp at h)<;>try (exfalso;omega))|(apply aI;(iterate 3 exact rfl);(intro _;apply hless<;>first|assumption|omega);rotate_left;(iterate 2 exact rfl))|(apply ixA pk;(iterate 5 exact rfl);rotate_left;exact rfl;(intro hw;(exact (show _=((a:Nat):Int) from by omega)));(intro hw;(omega));exact rfl;(exact Nat.zero_add _))|(apply ldA pk Vl.elem;exact rfl;exact rfl;rotate_left;exact rfl;(exact aC _ _ _);(intro hw;(omega));exact rfl)|(refine ⟨⟨a+1,by omega,hA2⟩, ?_,by simp only;omega⟩;(((repeat (first|refine Sub.pv ?_ rfl|refine Sub.var ?_ rfl rfl));(exact Sub.nil _ _ _ (StSub.refl _) rfl))))|(intros;(try simp only [zql]);omega)))
  |false=>
    rw [show cA o.toArray[a]! c.parts[i].val=false from by rw [ea];exact hF] at hless
    rw [hat hF,getElem!_pos o a hlt] at hIf
    cases hG:pX o[a] c.parts[i].val with
    |true=>
      rw [show pX o.toArray[a]! c.parts[i].val=true from by rw [ea];exact hG] at hsame
      rw [hG] at hIf
      rw [if_pos ⟨hlt,rfl⟩] at hIf
      rw [hIf] at hu
      have hu2:o=eP (c.parts.take (i+1)):=hu.symm
      (try (apply wO pk;exact rfl));(repeat' (first|(show All _;constructor)|(show Imp _ _;constructor)|(show ImpX _ _ _ _;constructor)|(apply wC pk;(iterate 2 exact rfl))|(apply wE pk;(iterate 2 exact rfl))|(apply wDx pk;exact rfl;kernel_rfl;exact rfl;exact rfl)|(refine aA rfl (fun h=> ?_) (fun h=> ?_)<;>(try simp at h)<;>try (exfalso;omega))|(apply aI;(iterate 3 exact rfl);(intro _;(first|apply hless|apply hsame)<;>first|assumption|omega);rotate_left;(iterate 2 exact rfl))|(apply ixA pk;(iterate 5 exact rfl);rotate_left;exact rfl;(intro hw;(exact (show _=((a:Nat):Int) from by omega)));(intro hw;(omega));exact rfl;(exact Nat.zero_add _))|(apply ldA pk Vl.elem;exact rfl;exact rfl;rotate_left;exact rfl;(exact aC _ _ _);(intro hw;(omega));exact rfl)|(refine ⟨⟨(i+1,id,o),by simp only;omega,hid,hu2⟩, ?_,by simp only;omega⟩;(((repeat (refine Sub.pv ?_ rfl));(exact Sub.nil _ _ _ (StSub.refl _) rfl))))|(intros;(try simp only [zql]);omega)))
    |false=>
      rw [show pX o.toArray[a]! c.parts[i].val=false from by rw [ea];exact hG] at hsame
      rw [hG] at hIf
      rw [if_neg (by simp)] at hIf
      rw [hIf] at hu
      have hu2:cM o a [c.parts[i].val]=eP (c.parts.take (i+1)):=hu.symm
      (try (apply wO pk;exact rfl));(repeat' (first|(show All _;constructor)|(show Imp _ _;constructor)|(show ImpX _ _ _ _;constructor)|(apply wC pk;(iterate 2 exact rfl))|(apply wE pk;(iterate 2 exact rfl))|(apply wDx pk;exact rfl;kernel_rfl;exact rfl;exact rfl)|(refine aA rfl (fun h=> ?_) (fun h=> ?_)<;>(try simp at h)<;>try (exfalso;omega))|(apply aI;(iterate 3 exact rfl);(intro _;(first|apply hless|apply hsame)<;>first|assumption|omega);rotate_left;(iterate 2 exact rfl))|(apply ixA pk;(iterate 5 exact rfl);rotate_left;exact rfl;(intro hw;(exact (show _=((a:Nat):Int) from by omega)));(intro hw;(omega));exact rfl;(exact Nat.zero_add _))|(apply ldA pk Vl.elem;exact rfl;exact rfl;rotate_left;exact rfl;(exact aC _ _ _);(intro hw;(omega));exact rfl)|(apply iS;exact rfl;exact rfl;(apply (adD o [c.parts[i].val] a id o.length _ (aC _ _ _) rfl (by omega) (by simp) (by simp;omega))<;>first|exact aC _ _ _|assumption|omega|(fail));(iterate 3 exact rfl);intro _ st' hR;obtain ⟨id2,rfl,hid2,rfl⟩:=hR)|(refine ⟨⟨(i+1,id2,cM o a [c.parts[i].val]),by simp only;omega,afY hid hid2,hu2⟩, ?_,by simp only;omega⟩;(((repeat (refine Sub.pv ?_ rfl));(exact Sub.nil _ _ _ (cE (by assumption)) rfl))))|(intros;(try simp only [zql]);omega)))
  have hIf:tU o c.parts[i].val=cM o a [c.parts[i].val]:=by
    unfold tU
    rw [apO (v:=c.parts[i].val) ha hA fun h=>absurd h hlt,if_neg (by simp [hlt])]
  rw [hIf] at hu
  have hu2:cM o a [c.parts[i].val]=eP (c.parts.take (i+1)):=hu.symm
  obtain rfl:a=o.length:=by omega
  (try (apply wO pk;exact rfl));(repeat' (first|(show All _;constructor)|(show Imp _ _;constructor)|(show ImpX _ _ _ _;constructor)|(apply wC pk;(iterate 2 exact rfl))|(apply wE pk;(iterate 2 exact rfl))|(apply wDx pk;exact rfl;kernel_rfl;exact rfl;exact rfl)|(refine aA rfl (fun h=> ?_) (fun h=> ?_)<;>(try simp at h)<;>try (exfalso;omega))|(apply aI;(iterate 3 exact rfl);(intro _;(first|apply (show PF Tryz.prog 183 [_,_] (PV.val (Value.bool (false))) from by rename_i hh;simp [gw] at hh)|apply (show PF Tryz.prog 184 [_,_] (PV.val (Value.bool (false))) from by rename_i hh;simp [gw] at hh))<;>first|assumption|omega);rotate_left;(iterate 2 exact rfl))|(apply ixA pk;(iterate 5 exact rfl);rotate_left;exact rfl;(intro hw;(exact (show _=((o.length:Nat):Int) from by omega)));(intro hw;((focus (simp [gw] at hw;done))));exact rfl;(exact Nat.zero_add _))|(apply ldA pk Vl.elem;exact rfl;exact rfl;rotate_left;exact rfl;(exact aC _ _ _);(intro hw;((focus (simp [gw] at hw;done))));exact rfl)|(apply iS;exact rfl;exact rfl;(apply (adD o [c.parts[i].val] o.length id o.length _ (aC _ _ _) rfl (by omega) (by simp) (by simp;omega))<;>first|exact aC _ _ _|assumption|omega|(fail));(iterate 3 exact rfl);intro _ st' hR;obtain ⟨id2,rfl,hid2,rfl⟩:=hR)|(refine ⟨⟨(i+1,id2,cM o o.length [c.parts[i].val]),by simp only;omega,afY hid hid2,hu2⟩, ?_,by simp only;omega⟩;(((repeat (refine Sub.pv ?_ rfl));(exact Sub.nil _ _ _ (cE (by assumption)) rfl))))|(intros;(try simp only [zql]);omega)))
def dN (xs:Array Int):Nat→Nat
  |0=>0
  |1=>0
  |i+2=>dN xs (i+1)+if xs[i+1]! =xs[i]! then 0 else 1
theorem aeO (xs:Array Int) {k:Nat} (h:1≤k):dN xs (k+1)=dN xs k+if xs[k]! =xs[k-1]! then 0 else 1:=by
  obtain ⟨i,rfl⟩:∃i,k=i+1:=⟨k-1,by omega⟩
  rfl
theorem asQ (xs:Array Int) (k:Nat):∀y,1≤k→dN xs (k+y)≤dN xs k+y
  |0,_=>Nat.le_refl _
  |y+1,h=>by
    have:=asQ xs k y h
    rw [show k+(y+1)=k+y+1 from rfl,aeO xs (by omega)]
    split<;>omega
def tV (xs:Array Int):Nat:=if xs.size<2 then xs.size else 1+dN xs xs.size
theorem ahH (xs:Array Int) {st:aL} {id n:Nat} (hst:st id=some (.arr 3 (xs.toList.map I1))) (hn:xs.size=n) (h12:n<1000000000000):
    PC Tryz.prog 187 [.vec id 1 0 n] st fun r S=>r= .vec id 1 0 (tV xs)∧∃rows,S=upd st id (some (.arr 3 rows)):=by
  by_cases h2:n<2
  · have e:tV xs=n:=by unfold tV;rw [if_pos (by omega),hn]
    rw [e]
    refine eH aD Tryz.func187 (by kernel_rfl) rfl rfl rfl rfl ?_
    (try (apply wO pk;exact rfl));(repeat' (first|(show All _;constructor)|(apply wC pk;(iterate 2 exact rfl))|(refine aA rfl (fun h=> ?_) (fun h=> ?_)<;>(try simp at h)<;>try (exfalso;omega))|((try refine aB ?_);((refine ⟨_,_,_,rfl,Wk.refl _,StSub.refl _, ?_⟩;(exact ⟨rfl,_,(gQ hst).symm⟩);done)))))
  have e:tV xs=1+dN xs n:=by unfold tV;rw [if_neg (by omega),hn]
  rw [e]
  refine eH aD Tryz.func187 (by kernel_rfl) rfl rfl rfl rfl ?_
  focus ((try (apply wO pk;exact rfl));(repeat' (first|(show All _;constructor)|(apply wC pk;(iterate 2 exact rfl))|(refine aA rfl (fun h=> ?_) (fun h=> ?_)<;>(try simp at h)<;>try (exfalso;omega)))))
  refine aJ (X:={x:Nat//1≤x∧x≤n∧dN xs x+1=x}) (fun i=>(((St.nil 61 (st)).pv 0 (.vec id 1 0 n)).pv 3 ((PV.val (Value.int .i64 ((i.1:Nat))))))) (fun i=>n-i.1) ⟨1,by omega,by omega,rfl⟩ ?_ (fun i=> ?_)
  · (((repeat (refine Sub.pv ?_ rfl));(exact Sub.nil _ _ _ (StSub.refl _) rfl)))
  obtain ⟨k,hk1,hk2,hk3⟩:=i
  dsimp only
  by_cases hend:n≤k
  · obtain rfl:k=n:=by omega
    have e2:1+dN xs k=k:=by omega
    rw [e2]
    (try (apply wO pk;exact rfl));(repeat' (first|(show All _;constructor)|(apply wC pk;(iterate 2 exact rfl))|(refine aA rfl (fun h=> ?_) (fun h=> ?_)<;>(try simp at h)<;>try (exfalso;omega))|((try refine aB ?_);((refine ⟨_,_,_,rfl,Wk.refl _,StSub.refl _, ?_⟩;(exact ⟨rfl,_,(gQ hst).symm⟩);done)))))
  have hkn:k<n:=by omega
  have hu:=aeO xs hk1
  by_cases hd:¬xs[k]! =xs[k-1]!
  · rw [if_neg hd] at hu
    have hu2:dN xs (k+1)+1=k+1:=by omega
    (try (apply wO pk;exact rfl));(repeat' (first|(show All _;constructor)|(show Imp _ _;constructor)|(apply wC pk;(iterate 2 exact rfl))|(apply wE pk;(iterate 2 exact rfl))|(apply wDx pk;exact rfl;kernel_rfl;exact rfl;exact rfl)|(refine aA rfl (fun h=> ?_) (fun h=> ?_)<;>(try simp at h)<;>try (exfalso;omega))|(apply ixA pk;(iterate 5 exact rfl);rotate_left;exact rfl;(intro hw;(first|exact (show _=((k:Nat):Int) from by omega)|exact (show _=((k-1:Nat):Int) from by omega)));(intro hw;(omega));exact rfl;(exact Nat.zero_add _))|(apply ldA pk I1.elem;exact rfl;exact rfl;rotate_left;exact rfl;(assumption);(intro hw;(omega));exact rfl)|(refine ⟨⟨k+1,by omega,by omega,hu2⟩, ?_,by simp only;omega⟩;(((repeat (refine Sub.pv ?_ rfl));(exact Sub.nil _ _ _ (StSub.refl _) rfl))))|(intros;(try simp only [zql]);omega)))
  replace hd:=Decidable.of_not_not hd
  rw [if_pos hd] at hu
  focus ((try (apply wO pk;exact rfl));(repeat' (first|(show All _;constructor)|(show Imp _ _;constructor)|(apply wC pk;(iterate 2 exact rfl))|(apply wE pk;(iterate 2 exact rfl))|(apply wDx pk;exact rfl;kernel_rfl;exact rfl;exact rfl)|(refine aA rfl (fun h=> ?_) (fun h=> ?_)<;>(try simp at h)<;>try (exfalso;omega))|(apply ixA pk;(iterate 5 exact rfl);rotate_left;exact rfl;(intro hw;(first|exact (show _=((k:Nat):Int) from by omega)|exact (show _=((k-1:Nat):Int) from by omega)));(intro hw;(omega));exact rfl;(exact Nat.zero_add _))|(apply ldA pk I1.elem;exact rfl;exact rfl;rotate_left;exact rfl;(assumption);(intro hw;(omega));exact rfl)|(apply sG pk k (n-k);(iterate 4 exact rfl);rotate_left;exact rfl;(intro _;exact ⟨_,cJ rfl rfl,by omega⟩);(intro _;exact ⟨_,dC,by omega⟩);(intro _;omega);(intro _;omega);exact rfl)|(intros;(try simp only [zql]);omega))))
  refine aJ (X:={x:Nat×Array Int//1≤x.1∧x.1≤n-k∧x.2.size=n∧∀j,k+x.1≤j+1→j<n→x.2[j]! =xs[j]!}) (fun y=>(((((St.nil 61 (upd st id (some (.arr 3 (y.1.2.toList.map I1))))).pv 0 (.vec id 1 0 n)).pv 3 ((PV.val (Value.int .i64 (((1+dN xs (k+y.1.1):Nat):Int)))))).pv 4 (.vec id 1 k (n-k))).pv 5 ((PV.val (Value.int .i64 ((y.1.1:Nat))))))) (fun y=>n-y.1.1) ⟨(1,xs),by omega,by omega,hn,fun _ _ _=>rfl⟩ ?_ (fun y=> ?_)
  · dsimp only
    (((repeat (first|refine Sub.pv ?_ rfl|refine Sub.pv' ?_ rfl (by (congr 2;omega))));(exact Sub.nil _ _ _ (iO (by first|rfl|exact gQ (by assumption)|((simp only [St.pv,St.put,St.sst,St.setv,St.nil,St.var,gP]);first|done|rfl))) rfl)))
  obtain ⟨⟨y,ys⟩,hy1,hy2,hys,hy⟩:=y
  simp only at hy1 hy2 hys hy
  dsimp only
  have hle:=asQ xs (k+1) (y-1) (by omega)
  rw [show k+1+(y-1)=k+y by omega] at hle
  by_cases hend2:n-k≤y
  · obtain rfl:y=n-k:=by omega
    rw [show k+(n-k)=n by omega] at hle⊢
    have hr:(ys.toList.map I1).length=n:=by rw [zql,Array.length_toList,hys]
    (try (apply wO pk;exact rfl));(repeat' (first|(show All _;constructor)|(show Imp _ _;constructor)|(apply wC pk;(iterate 2 exact rfl))|(apply wE pk;(iterate 2 exact rfl))|(refine aA rfl (fun h=> ?_) (fun h=> ?_)<;>(try simp at h)<;>try (exfalso;omega))|((try refine aB ?_);((refine ⟨_,_,_,rfl,Wk.refl _,StSub.refl _, ?_⟩;(exact ⟨rfl,_,gP _ _ _ _⟩);done)))|(apply sG pk (1+dN xs n) (n-(1+dN xs n));(iterate 4 exact rfl);rotate_left;exact rfl;(intro _;exact ⟨_,cJ rfl rfl,by omega⟩);(intro _;exact ⟨_,dC,by omega⟩);(intro _;omega);(intro _;omega);exact rfl)|((refine ayL pk (id:=id) (off:=1+dN xs n) (len:=n-(1+dN xs n)) (rows:=ys.toList.map I1) rfl rfl rfl rfl rfl rfl rfl rfl (aC _ _ _) (by omega) (by omega) (by omega) rfl ?_))|(apply aAt pk (1+dN xs n);(iterate 4 exact rfl);rotate_left;exact rfl;(intro _;exact cJ rfl rfl);(intro _;omega);(intro _;omega);exact rfl)))
  have hr1:=hy (k+y) (by omega) (by omega)
  have hr2:=hy (k+(y-1)) (by omega) (by omega)
  have hup:=aeO xs (show 1≤k+y by omega)
  rw [show k+y-1=k+(y-1) by omega,show k+y+1=k+(y+1) from rfl] at hup
  by_cases he:xs[k+y]! =xs[k+(y-1)]!
  · rw [if_pos he] at hup
    have hya:∀j,k+(y+1)≤j+1→j<n→ys[j]! =xs[j]!:=fun j h1 h2=>hy j (by omega) h2
    rw [←hr1,←hr2] at he
    (try (apply wO pk;exact rfl));(repeat' (first|(show All _;constructor)|(show Imp _ _;constructor)|(apply wC pk;(iterate 2 exact rfl))|(apply wE pk;(iterate 2 exact rfl))|(apply wDx pk;exact rfl;kernel_rfl;exact rfl;exact rfl)|(refine aA rfl (fun h=> ?_) (fun h=> ?_)<;>(try simp at h)<;>try (exfalso;omega))|(apply ixA pk;(iterate 5 exact rfl);rotate_left;exact rfl;(intro hw;(first|exact (show _=((y:Nat):Int) from by omega)|exact (show _=((y-1:Nat):Int) from by omega)));(intro hw;(omega));exact rfl;(exact rfl))|(apply ldA pk I1.elem;exact rfl;exact rfl;rotate_left;exact rfl;(exact aC _ _ _);(intro hw;(omega));exact rfl)|(refine ⟨⟨(y+1,ys),by simp only;omega,by simp only;omega,hys,hya⟩, ?_,by simp only;omega⟩;((dsimp only));(((repeat (first|refine Sub.pv ?_ rfl|refine Sub.pv' ?_ rfl (by (congr 2;omega))));(exact Sub.nil _ _ _ (StSub.refl _) rfl))))|(intros;(try simp only [zql]);omega)))
  · rw [if_neg he] at hup
    have hya:∀j,k+(y+1)≤j+1→j<n→(ys.setIfInBounds (1+dN xs (k+y)) ys[k+y]!)[j]! =xs[j]!:=fun j h1 h2=>by
      rw [getElem!_pos _ j (by rw [zqs];omega),Array.getElem_setIfInBounds_ne (by omega) (by omega),←getElem!_pos ys j (by omega)]
      exact hy j (by omega) h2
    rw [←hr1,←hr2] at he
    (try (apply wO pk;exact rfl));(repeat' (first|(show All _;constructor)|(show Imp _ _;constructor)|(apply wC pk;(iterate 2 exact rfl))|(apply wE pk;(iterate 2 exact rfl))|(apply wDx pk;exact rfl;kernel_rfl;exact rfl;exact rfl)|(refine aA rfl (fun h=> ?_) (fun h=> ?_)<;>(try simp at h)<;>try (exfalso;omega))|(apply ixA pk;(iterate 5 exact rfl);rotate_left;exact rfl;(intro hw;(first|exact (show _=((y:Nat):Int) from by omega)|exact (show _=((y-1:Nat):Int) from by omega)|exact (show _=((1+dN xs (k+y):Nat):Int) from by omega)));(intro hw;(omega));exact rfl;(first|exact Nat.zero_add _|exact rfl))|(apply ldA pk I1.elem;exact rfl;exact rfl;rotate_left;exact rfl;(exact aC _ _ _);(intro hw;(omega));exact rfl)|(apply stA pk I1.elem;(iterate 3 exact rfl);(exact aC _ _ _);(omega);exact rfl)|(refine ⟨⟨(y+1,ys.setIfInBounds (1+dN xs (k+y)) ys[k+y]!),by simp only;omega,by simp only;omega,by rw [zqs];exact hys,hya⟩, ?_,by simp only;omega⟩;((dsimp only));(((repeat (first|refine Sub.pv ?_ rfl|refine Sub.pv' ?_ rfl (by (congr 2;omega))));(exact Sub.nil _ _ _ (iO (by first|rfl|exact gQ (by assumption)|((simp only [St.pv,St.put,St.sst,St.setv,St.nil,St.var,gP]);first|done|rfl))) rfl))))|(intros;(try simp only [zql]);omega)))
def eO (c:Cl):List Int:=(c.parts.map (·.val.n)).mergeSort fun x y=>decide (x≤y)
theorem axC {c:Cl} {i:Nat} (h:i<c.parts.length):(c.parts.take (i+1)).map (·.val.n)=(c.parts.take i).map (·.val.n)++[c.parts[i].val.n]:=by
  rw [List.take_succ_eq_append_getElem h,List.map_append];rfl
theorem auZ (c:Cl) (hl:c.parts.length<1000000000) (st:aL):PC Tryz.prog 141 [.agg c.cells] st fun r S=>∃id,r= .vec id 1 0 (tV (eO c).toArray)∧st id=none∧∃o,S=upd st id (some o):=by
  refine eH aD Tryz.func141 (by kernel_rfl) rfl rfl rfl rfl ?_
  focus ((try (apply wO pk;exact rfl));(repeat' ((show All _;constructor))))
  refine jH 3 3 1 rfl rfl rfl (fun id hid=> ?_)
  refine aJ (X:={x:Nat×Nat//x.1≤c.parts.length∧st x.2=none}) (fun i=>(((((St.nil 24 (upd st i.1.2 (some (.arr 3 (((c.parts.take i.1.1).map (·.val.n)).map I1))))).pv 3 (.vec i.1.2 1 0 i.1.1)).pv 7 (.seq (c.parts.map Pt.cells))).pv 8 ((PV.val (Value.int .i64 (((c.parts.map Pt.cells).length:Nat)))))).pv 9 ((PV.val (Value.int .i64 ((i.1.1:Nat))))))) (fun i=>c.parts.length-i.1.1) ⟨(0,id),by simp,hid⟩ ?_ (fun i=> ?_)
  · dsimp only
    (((repeat (refine Sub.pv ?_ rfl));(exact Sub.nil _ _ _ (StSub.refl _) rfl)))
  obtain ⟨⟨i,id⟩,hi,hid⟩:=i
  simp only at hi hid
  dsimp only
  by_cases hend:c.parts.length≤i
  · obtain rfl:i=c.parts.length:=by omega
    rw [List.take_length]
    have hso:=anC (c.parts.map (·.val.n)) (st:=upd st id (some (.arr 3 ((c.parts.map (·.val.n)).map I1)))) (id:=id) (n:=c.parts.length) (aC _ _ _) (zql _) (by omega)
    have hnl:(eO c).toArray.size=c.parts.length:=by simp [eO]
    have hco:=ahH (eO c).toArray (st:=upd (upd st id (some (.arr 3 ((c.parts.map (·.val.n)).map I1)))) id (some (.arr 3 ((eO c).map I1)))) (id:=id) (n:=c.parts.length) (aC _ _ _) hnl (by omega)
    (try (apply wO pk;exact rfl));(repeat' (first|(show All _;constructor)|(apply wC pk;(iterate 2 exact rfl))|(apply wE pk;(iterate 2 exact rfl))|(refine aA rfl (fun h=> ?_) (fun h=> ?_)<;>(try simp at h)<;>try (exfalso;omega))|((try refine aB ?_);((refine ⟨_,_,_,rfl,Wk.refl _,StSub.refl _, ?_⟩;(exact ⟨id,rfl,hid,_,(gP _ _ _ _).trans (gP _ _ _ _)⟩);done)))|(apply iS;exact rfl;exact rfl;(apply hso<;>first|exact aC _ _ _|assumption|omega|(fail));(iterate 3 exact rfl);intro _ st' hR;obtain rfl:=hR)|(apply iS;exact rfl;exact rfl;(apply hco<;>first|exact aC _ _ _|assumption|omega|(fail));(iterate 3 exact rfl);intro _ st' hR;obtain ⟨rfl,rows,rfl⟩:=hR)))
  have hil:i<c.parts.length:=by omega
  have hlen:((c.parts.take i).map (·.val.n)).length=i:=by rw [zql,List.length_take];omega
  have e:=axC hil
  (try (apply wO pk;exact rfl));(repeat' (first|(show All _;constructor)|(show Imp _ _;constructor)|(apply wC pk;(iterate 2 exact rfl))|(apply wE pk;(iterate 2 exact rfl))|(refine aA rfl (fun h=> ?_) (fun h=> ?_)<;>(try simp at h)<;>try (exfalso;omega))|(apply aM pk;(iterate 6 exact rfl);rotate_left;exact rfl;(intro hw;exact rfl);(intro hw;apply aF<;>omega);(intro _;exact rfl);exact rfl)|(apply apV pk (f:=I1) [c.parts[i].val.n] 8;(iterate 9 exact rfl);(exact aC _ _ _);(omega);exact fun _=>rfl;exact fun _=>rfl;exact mR;((focus (simp;omega)));((focus (simp;omega)));exact rfl;intro id' hid')|(refine ⟨⟨(i+1,id'),by simp only;omega,gJ hid'⟩, ?_,by simp only;omega⟩;((dsimp only;try rw [e]));(((repeat (refine Sub.pv ?_ rfl));(exact Sub.nil _ _ _ (cE (by assumption)) rfl))))|(intros;(try simp only [zql]);omega)))
def abX (c:Cl):Vl:=⟨1,(tV (eO c).toArray:Nat),e0⟩
theorem agJ (c:Cl) (hl:c.parts.length<1000000000):PF Tryz.prog 97 [.agg c.cells] (.agg (abX c).cells):=by
  intro st
  have hn:=auZ c hl st
  refine eH aD Tryz.func97 (by kernel_rfl) rfl rfl rfl rfl ?_
  (try (apply wO pk;exact rfl));(repeat' (first|((refine aB ?_;exact ⟨_,_,st,rfl,Wk.refl _,eK (StSub.refl _) hid,rfl,rfl⟩))|(show All _;constructor)|(apply wE pk;(iterate 2 exact rfl))|(apply iS;exact rfl;exact rfl;(apply hn<;>first|exact aC _ _ _|assumption|omega|(fail));(iterate 3 exact rfl);intro _ st' hR;obtain ⟨id,rfl,hid,o,rfl⟩:=hR)))
def vA (c:Cl):Vl:=((eP c.parts).getLast?).getD Vl.zero
theorem ajC (c:Cl) (hl:c.parts.length<1000000000):PF Tryz.prog 95 [.agg c.cells] (.agg (vA c).cells):=by
  intro st
  have hn:=avD c hl st
  have hvl:=afL c.parts
  unfold vA
  generalize eP c.parts=o at*
  rcases Nat.eq_zero_or_pos o.length with h0|h0
  · obtain rfl:o=[]:=List.eq_nil_of_length_eq_zero h0
    refine eH aD Tryz.func95 (by kernel_rfl) rfl rfl rfl rfl ?_
    (try (apply wO pk;exact rfl));(repeat' (first|((refine aB ?_;exact ⟨_,_,st,rfl,Wk.refl _,eK (StSub.refl _) hid,rfl,rfl⟩))|(show All _;constructor)|(apply wC pk;(iterate 2 exact rfl))|(apply wE pk;(iterate 2 exact rfl))|(refine aA rfl (fun h=> ?_) (fun h=> ?_)<;>(try simp at h)<;>try (exfalso;omega))|(apply iS;exact rfl;exact rfl;(apply hn<;>first|exact aC _ _ _|assumption|omega|(fail));(iterate 3 exact rfl);intro _ st' hR;obtain ⟨id,rfl,hid,rfl⟩:=hR)))
  · have e:o.getLast?.getD Vl.zero=o.toArray[o.length-1]!:=by
      rw [List.getLast?_eq_getElem?,List.getElem?_eq_getElem (by omega),getElem!_pos o.toArray (o.length-1) (by simp;omega)];simp
    rw [e]
    refine eH aD Tryz.func95 (by kernel_rfl) rfl rfl rfl rfl ?_
    (try (apply wO pk;exact rfl));(repeat' (first|((refine aB ?_;exact ⟨_,_,st,rfl,Wk.refl _,eK (StSub.refl _) hid,rfl,rfl⟩))|(exact absurd (by assumption:o=[]) (List.ne_nil_of_length_pos h0))|(show All _;constructor)|(show Imp _ _;constructor)|(apply wC pk;(iterate 2 exact rfl))|(apply wE pk;(iterate 2 exact rfl))|(refine aA rfl (fun h=> ?_) (fun h=> ?_)<;>(try simp at h)<;>try (exfalso;omega))|(apply ixA pk;(iterate 5 exact rfl);rotate_left;exact rfl;(intro hw;(exact (show _=((o.length-1:Nat):Int) from by omega)));(intro hw;(omega));exact rfl;(exact Nat.zero_add _))|(apply iS;exact rfl;exact rfl;(apply hn<;>first|exact aC _ _ _|assumption|omega|(fail));(iterate 3 exact rfl);intro _ st' hR;obtain ⟨id,rfl,hid,rfl⟩:=hR)|((apply ldA pk Vl.elem;exact rfl;exact rfl;rotate_left;exact rfl;exact aC _ _ _;(intro _;exact (show o.length-1<o.length by omega));exact rfl))|(intros;(try simp only [zql]);omega)))
def aZ (c:Cl):Vl:=if c.kind=0 then c.val else if c.kind=1 then vA c else if c.kind=2 then vX c else if c.kind=3 then abX c else if c.kind=4 then T.showP c else Vl.zero
theorem awA (c:Cl) (hl:c.parts.length≤1000):aqP aZ c:=by
  have h1:=ajC c (by omega)
  have h2:=ahQ c
  have h3:=agJ c (by omega)
  have h4:=T.show_spec c (by omega)
  show PF Tryz.prog 55 [.agg c.cells] (.agg (aZ c).cells)
  unfold aZ
  generalize vA c=A at*
  generalize vX c=B at*
  generalize abX c=C at*
  generalize T.showP c=D at*
  refine aH aD Tryz.func55 (by kernel_rfl) rfl rfl rfl rfl (fun st=> ?_)
  (try (apply wO pk;exact rfl));(repeat' (first|(show All _;constructor)|(show Imp _ _;constructor)|(apply wC pk;(iterate 2 exact rfl))|(apply wE pk;(iterate 2 exact rfl))|(refine aA rfl (fun h=> ?_) (fun h=> ?_)<;>(try simp at h)<;>try (exfalso;omega))|(refine aB ?_;refine ⟨_,_,_,rfl,Wk.refl _,StSub.refl _, ?_,rfl⟩;try first|rfl|(((repeat first|rw [if_pos (by assumption)]|rw [if_neg (by assumption)]);exact rfl);done))|(apply aI;(iterate 3 exact rfl);(intro _;(first|apply h1|apply h2|apply h3|apply h4)<;>first|assumption|omega);rotate_left;(iterate 2 exact rfl))))
end Go.Proofs.YtcglimangneafaaGreatDoor
