import Derived.Test.YtddmbnddgiebgaaGreatDoorTyC
set_option linter.unusedSimpArgs false
set_option linter.unusedVariables false
namespace Go.Proofs.YtddmbnddgiebgaaGreatDoor.T
open Go Go.Abs
attribute [local irreducible] Ev PWp
set_option maxRecDepth 10000
set_option maxHeartbeats 1000000
theorem arP (p:Pt) (d:Dt) (n:Int):aS p=⟨d,n⟩↔((aS p).dot.dev=d.dev∧(aS p).dot.seq=d.seq)∧(aS p).at_=n:=by
  rw [Nm.ext_iff,Dt.ext_iff]
theorem iF (p:Pt):PF Tryz.prog 206 [.agg p.cells] (.agg (bD p).cells):=by
  refine aL aH Tryz.func206 (by kernel_rfl) rfl rfl rfl rfl (fun st=> ?_)
  (try (apply wO pk;exact rfl));(repeat' (first|(show All _;constructor)|(show Imp _ _;constructor)|(show ImpX _ _ _ _;constructor)|(apply wC pk;(iterate 2 exact rfl))|(apply wE pk;(iterate 2 exact rfl))|(apply wX pk;exact rfl)|(apply wN pk;exact rfl)|(apply wD pk [] [];kernel_rfl;exact rfl;exact rfl)|(apply aB;simp only [zqt,zqf])|(refine aD rfl (fun h=> ?_) (fun h=> ?_)<;>(try simp at h)<;>try (exfalso;omega))|(refine aF ?_;refine ⟨_,_,_,rfl,Wk.refl _,StSub.refl _, ?_,rfl⟩;try rfl)|(intros;(try simp only [zql]);omega)))
theorem vO (d:Dt) (n:Int):PF Tryz.prog 231 [.agg d.cells,(PV.val (Value.int .i64 (n)))] (PV.val (Value.bool (tF ⟨d,n⟩))):=by
  refine aL aH Tryz.func231 (by kernel_rfl) rfl rfl rfl rfl (fun st=> ?_)
  (try (apply wO pk;exact rfl));(repeat' (first|(show All _;constructor)|(show Imp _ _;constructor)|(show ImpX _ _ _ _;constructor)|(apply wC pk;(iterate 2 exact rfl))|(apply wE pk;(iterate 2 exact rfl))|(apply wX pk;exact rfl)|(apply wN pk;exact rfl)|(apply wD pk [] [];kernel_rfl;exact rfl;exact rfl)|(apply aB;simp only [zqt,zqf])|(refine aD rfl (fun h=> ?_) (fun h=> ?_)<;>(try simp at h)<;>try (exfalso;omega))|(refine aF ?_;refine ⟨_,_,_,rfl,Wk.refl _,StSub.refl _, ?_,rfl⟩;try first|rfl|((simp only [tF,eR,Bool.and_assoc]);done))|(intros;(try simp only [zql]);omega)))
theorem sO (a b:Sp):PF Tryz.prog 207 [.agg a.cells, .agg b.cells] (PV.val (Value.bool (gU a b))):=by
  refine aL aH Tryz.func207 (by kernel_rfl) rfl rfl rfl rfl (fun st=> ?_)
  (try (apply wO pk;exact rfl));(repeat' (first|(show All _;constructor)|(show Imp _ _;constructor)|(show ImpX _ _ _ _;constructor)|(apply wC pk;(iterate 2 exact rfl))|(apply wE pk;(iterate 2 exact rfl))|(apply wX pk;exact rfl)|(apply wN pk;exact rfl)|(apply wD pk [] [];kernel_rfl;exact rfl;exact rfl)|(apply aB;simp only [zqt,zqf])|(refine aD rfl (fun h=> ?_) (fun h=> ?_)<;>(try simp at h)<;>try (exfalso;omega))|(refine aF ?_;refine ⟨_,_,_,rfl,Wk.refl _,StSub.refl _, ?_,rfl⟩;try first|rfl|((simp only [gU];grind);done))|(intros;(try simp only [zql]);omega)))
theorem xU (p:Pt):PF Tryz.prog 204 [.agg p.cells] (PV.val (Value.bool (bW p))):=by
  have hz:aR p=Nm.zero↔(p.after.dev=0∧p.after.seq=0)∧p.afterAt=0:=by rw [Nm.ext_iff,Dt.ext_iff];rfl
  refine aL aH Tryz.func204 (by kernel_rfl) rfl rfl rfl rfl (fun st=> ?_)
  (try (apply wO pk;exact rfl));(repeat' (first|(show All _;constructor)|(show Imp _ _;constructor)|(show ImpX _ _ _ _;constructor)|(apply wC pk;(iterate 2 exact rfl))|(apply wE pk;(iterate 2 exact rfl))|(apply wX pk;exact rfl)|(apply wN pk;exact rfl)|(apply wD pk [] [];kernel_rfl;exact rfl;exact rfl)|(apply aB;simp only [zqt,zqf])|(refine aD rfl (fun h=> ?_) (fun h=> ?_)<;>(try simp at h)<;>try (exfalso;omega))|(refine aF ?_;refine ⟨_,_,_,rfl,Wk.refl _,StSub.refl _, ?_,rfl⟩;try first|rfl|((first|(have e:bW p=false:=(by simp only [bW,eR,e0];grind);rw [e];done)|(have e:bW p=(tF (aS p)&&(tF (aR p)||decide (aR p=Nm.zero))):=(by simp only [bW,eR,e0];grind);rw [e];congr 2;rw [Bool.eq_iff_iff];simp only [Bool.or_eq_true,Bool.and_eq_true,decide_eq_true_eq,hz];rfl));done))|(apply aN;(iterate 3 exact rfl);(intro _;(first|apply (vO p.dot p.at_)|apply (vO p.after p.afterAt))<;>first|assumption|omega);rotate_left;(iterate 2 exact rfl))|(intros;(try simp only [zql]);omega)))
def atP (l:List Pt) (k:Nm):Int:=match l.findIdx? (fun p=>decide (aS p=k)) with|some j=>((j:Nat):Int)|none=> -1
theorem oJ (l:List Pt) (d:Dt) (n:Int) (hl:l.length<1000000000000):PF Tryz.prog 205 [.seq (l.map Pt.cells), .agg d.cells,(PV.val (Value.int .i64 (n)))] (PV.val (Value.int .i64 (atP l ⟨d,n⟩))):=by
  refine aL aH Tryz.func205 (by kernel_rfl) rfl rfl rfl rfl (fun st=> ?_)
  (try (apply wO pk;exact rfl));(repeat' (first|(show All _;constructor)|(show Imp _ _;constructor)|(show ImpX _ _ _ _;constructor)|(apply wC pk;(iterate 2 exact rfl))|(apply wE pk;(iterate 2 exact rfl))|(apply wX pk;exact rfl)|(apply wN pk;exact rfl)|(apply wD pk [] [];kernel_rfl;exact rfl;exact rfl)|(apply aB;simp only [zqt,zqf])|(refine aD rfl (fun h=> ?_) (fun h=> ?_)<;>(try simp at h)<;>try (exfalso;omega))|(refine aF ?_;refine ⟨_,_,_,rfl,Wk.refl _,StSub.refl _, ?_,rfl⟩;try rfl)|(intros;(try simp only [zql]);omega)))
  refine aO (X:={x:Nat//x≤l.length∧∀j (h:j<x) (h2:j<l.length),decide (aS l[j]=⟨d,n⟩)=false}) (fun i=>(((((St.nil 31 st).pv 0 (.seq (l.map Pt.cells))).pv 2 ((PV.val (Value.int .i64 (n))))).var 4 30 (d.cells)).pv 7 ((PV.val (Value.int .i64 ((i.1:Nat))))))) (fun i=>l.length-i.1) ⟨0,by omega,by omega⟩ ?_ (fun i=> ?_)
  · ((repeat (first|refine Sub.pv ?_ rfl|refine Sub.var ?_ rfl rfl));exact Sub.nil _ _ _ (StSub.refl _) rfl)
  obtain ⟨i,hi,hinv⟩:=i
  dsimp only
  have hd:=fun h:i<l.length=>arP (l[i]'h) d n
  by_cases him:i<l.length
  · have hd:aS l[i]=⟨d,n⟩↔(l[i].dot.dev=d.dev∧l[i].dot.seq=d.seq)∧l[i].at_=n:=hd him
    (try (apply wO pk;exact rfl));(repeat' (first|(show All _;constructor)|(show Imp _ _;constructor)|(show ImpX _ _ _ _;constructor)|(apply wC pk;(iterate 2 exact rfl))|(apply wE pk;(iterate 2 exact rfl))|(apply wX pk;exact rfl)|(apply wN pk;exact rfl)|(apply wD pk [] [];kernel_rfl;exact rfl;exact rfl)|(apply aB;simp only [zqt,zqf])|(refine aD rfl (fun h=> ?_) (fun h=> ?_)<;>(try simp at h)<;>try (exfalso;omega))|(refine aF ?_;refine ⟨_,_,_,rfl,Wk.refl _,StSub.refl _, ?_,rfl⟩;try first|rfl|((rw [atP,lH him (decide_eq_true (hd.2 (by grind))) hinv]);done))|(apply aW pk;(iterate 6 exact rfl);rotate_left;exact rfl;(intro hw;exact rfl);(intro hw;apply aI<;>omega);(intro _;exact rfl);exact rfl)|(refine ⟨⟨i+1,by omega,fun j h1 h2=>by rcases Nat.lt_succ_iff_lt_or_eq.1 h1 with q|q;exact hinv j q h2;subst q;rw [decide_eq_false_iff_not,hd];grind⟩, ?_,by simp only;omega⟩;((repeat (first|refine Sub.pv ?_ rfl|refine Sub.var ?_ rfl rfl));exact Sub.nil _ _ _ (StSub.refl _) rfl))|(intros;(try simp only [zql]);omega)))
  · (try (apply wO pk;exact rfl));(repeat' (first|(show All _;constructor)|(show Imp _ _;constructor)|(show ImpX _ _ _ _;constructor)|(apply wC pk;(iterate 2 exact rfl))|(apply wE pk;(iterate 2 exact rfl))|(apply wX pk;exact rfl)|(apply wN pk;exact rfl)|(apply wD pk [] [];kernel_rfl;exact rfl;exact rfl)|(apply aB;simp only [zqt,zqf])|(refine aD rfl (fun h=> ?_) (fun h=> ?_)<;>(try simp at h)<;>try (exfalso;omega))|(refine aF ?_;refine ⟨_,_,_,rfl,Wk.refl _,StSub.refl _, ?_,rfl⟩;try first|rfl|((rw [atP,nL (by omega) hinv]);done))|(apply aW pk;(iterate 6 exact rfl);rotate_left;exact rfl;(intro hw;exact rfl);(intro hw;apply aI<;>omega);(intro _;exact rfl);exact rfl)|(intros;(try simp only [zql]);omega)))
end Go.Proofs.YtddmbnddgiebgaaGreatDoor.T
namespace Go.Proofs.YtddmbnddgiebgaaGreatDoor.T
open Go Go.Abs
attribute [local irreducible] Ev PWp
set_option maxRecDepth 10000
set_option maxHeartbeats 4000000
def alY (l:List Pt) (i:Nat) (h:i<l.length):Prop:=
  bW l[i]=true∧atP l (aS l[i])=i∧(∀k (hk:k<i),(l[k]'(by omega)).dot=l[i].dot→(l[k]'(by omega)).time=l[i].time)∧
    (l[i].after=Dt.zero∨∃u,∃hu:u<l.length,l.findIdx? (fun p=>decide (aS p=aR l[i]))=some u∧dG l[u] l[i]=true)
theorem eP {l:List Pt} (hn:(l.map aS).Nodup) {i:Nat} (h:i<l.length):atP l (aS l[i])=i:=by
  have:l.findIdx? (fun p=>decide (aS p=aS l[i]))=some i:=lH h (by simp) fun j hj h2=>by
    rw [decide_eq_false_iff_not]
    intro e
    have:=(List.pairwise_iff_getElem.1 hn) j i (by simpa using h2) (by simpa using h) hj
    simp only [List.getElem_map] at this
    exact this e
  rw [atP,this]
theorem tK {p:Pt} (h:bW p=true):p.after=Dt.zero↔aR p=Nm.zero:=by
  have h1:aR p=Nm.zero∨tF (aR p)=true:=by
    simp only [bW,Bool.and_eq_true,Bool.or_eq_true,decide_eq_true_eq] at h;exact h.2
  constructor
  · intro e
    rcases h1 with h1|h1
    · exact h1
    · simp only [tF,eR,Bool.and_eq_true,decide_eq_true_eq] at h1
      have:=h1.1.1.1
      rw [show (aR p).dot=p.after from rfl,e] at this
      have h2:(1:Int)≤0:=this
      omega
  · intro e;exact congrArg Nm.dot e
theorem tW {l:List Pt}:Whole l↔∀i (h:i<l.length),alY l i h:=by
  constructor
  · intro hW i h
    refine ⟨hW.formed _ (List.getElem_mem h),eP hW.nodup h,fun k hk e=>hW.times _ (List.getElem_mem _) _ (List.getElem_mem h) e, ?_⟩
    rcases hW.up _ (List.getElem_mem h) with e|⟨u,hu,e,ha⟩
    · exact .inl ((tK (hW.formed _ (List.getElem_mem h))).2 e)
    · right
      obtain ⟨j,hj,rfl⟩:=List.getElem_of_mem hu
      refine ⟨j,hj, ?_,ha⟩
      have:=eP hW.nodup hj
      rw [atP,e] at this
      split at this
      · rename_i j' hj';rw [hj'];congr 1;omega
      · omega
  · intro H
    have hnd:(l.map aS).Nodup:=by
      rw [List.Nodup,List.pairwise_iff_getElem]
      intro i j hi hj hij
      simp only [zql] at hi hj
      simp only [List.getElem_map]
      intro e
      have h1:=(H j hj).2.1
      rw [atP,←e] at h1
      split at h1
      · rename_i k hk
        have hk':k=j:=by omega
        subst hk'
        have:=(List.findIdx?_eq_some_iff_getElem.1 hk).2.2 i hij
        simp at this
      · omega
    refine ⟨⟨fun p hp=> ?_,hnd,fun p hp q hq e=> ?_⟩,fun p hp=> ?_⟩
    · obtain ⟨i,hi,rfl⟩:=List.getElem_of_mem hp;exact (H i hi).1
    · obtain ⟨i,hi,rfl⟩:=List.getElem_of_mem hp
      obtain ⟨j,hj,rfl⟩:=List.getElem_of_mem hq
      rcases Nat.lt_trichotomy i j with h|h|h
      · exact (H j hj).2.2.1 i h e
      · subst h;rfl
      · exact ((H i hi).2.2.1 j h e.symm).symm
    · obtain ⟨i,hi,rfl⟩:=List.getElem_of_mem hp
      rcases (H i hi).2.2.2 with e|⟨u,hu,h1,h2⟩
      · exact .inl ((tK (H i hi).1).1 e)
      · right
        obtain ⟨hu',h3,_⟩:=List.findIdx?_eq_some_iff_getElem.1 h1
        exact ⟨l[u],List.getElem_mem hu,by simpa using h3,h2⟩
theorem amU {l:List Pt} {i:Nat} (h:i<l.length) (hn:¬alY l i h):cP l=false:=by
  rw [←Bool.not_eq_true,dZ,tW];exact fun H=>hn (H i h)
theorem mA (l:List Pt) (hl:l.length<1000000000000):PF Tryz.prog 184 [.seq (l.map Pt.cells)] (PV.val (Value.bool (cP l))):=by
  refine aL aH Tryz.func184 (by kernel_rfl) rfl rfl rfl rfl (fun st=> ?_)
  (try (apply wO pk;exact rfl));(repeat' (first|(show All _;constructor)|(show Imp _ _;constructor)|(show ImpX _ _ _ _;constructor)|(apply wC pk;(iterate 2 exact rfl))|(apply wE pk;(iterate 2 exact rfl))|(apply wX pk;exact rfl)|(apply wN pk;exact rfl)|(apply wD pk [] [];kernel_rfl;exact rfl;exact rfl)|(apply aB;simp only [zqt,zqf])|(refine aD rfl (fun h=> ?_) (fun h=> ?_)<;>(try simp at h)<;>try (exfalso;omega))|(refine aF ?_;refine ⟨_,_,_,rfl,Wk.refl _,StSub.refl _, ?_,rfl⟩;try rfl)|(intros;(try simp only [zql]);omega)))
  refine aO (X:={x:Nat//x≤l.length∧∀j (h:j<x) (h2:j<l.length),alY l j h2}) (fun i=>(((St.nil 122 st).pv 0 (.seq (l.map Pt.cells))).pv 3 ((PV.val (Value.int .i64 ((i.1:Nat))))))) (fun i=>l.length-i.1) ⟨0,by omega,by omega⟩ ?_ (fun i=> ?_)
  · ((repeat (first|refine Sub.pv ?_ rfl|refine Sub.var ?_ rfl rfl));exact Sub.nil _ _ _ (StSub.refl _) rfl)
  obtain ⟨i,hi,hinv⟩:=i
  dsimp only
  by_cases him:i<l.length
  · have hn:=fun h=>amU him h
    have hz:(l[i]'him).after=Dt.zero↔(l[i]'him).after.dev=0∧(l[i]'him).after.seq=0:=Dt.ext_iff _ _
    have hsucc:alY l i him→∀j (h:j<i+1) (h2:j<l.length),alY l j h2:=fun ho j h1 h2=>by
      rcases Nat.lt_succ_iff_lt_or_eq.1 h1 with q|q
      · exact hinv j q h2
      · subst q;exact ho
    have hat:=oJ l (l[i]'him).dot (l[i]'him).at_ hl
    have hup:=oJ l (l[i]'him).after (l[i]'him).afterAt hl
    (try (apply wO pk;exact rfl));(repeat' (first|(show All _;constructor)|(show Imp _ _;constructor)|(show ImpX _ _ _ _;constructor)|(apply wC pk;(iterate 2 exact rfl))|(apply wE pk;(iterate 2 exact rfl))|(apply wX pk;exact rfl)|(apply wN pk;exact rfl)|(apply wD pk [] [];kernel_rfl;exact rfl;exact rfl)|(apply aB;simp only [zqt,zqf])|(refine aD rfl (fun h=> ?_) (fun h=> ?_)<;>(try simp at h)<;>try (exfalso;omega))|(refine aF ?_;refine ⟨_,_,_,rfl,Wk.refl _,StSub.refl _, ?_,rfl⟩;try first|rfl|((first|(rw [hn (fun q=>by have h1:=q.1;have h2:atP l ⟨l[i].dot,l[i].at_⟩=i:=q.2.1;grind)];done));done))|(apply aN;(iterate 3 exact rfl);(intro _;(first|apply (xU (l[i]'him))|apply hat)<;>first|assumption|omega);rotate_left;(iterate 2 exact rfl))|(apply aW pk;(iterate 6 exact rfl);rotate_left;exact rfl;(intro hw;exact rfl);(intro hw;apply aI<;>omega);(intro _;exact rfl);exact rfl)|(intros;(try simp only [zql]);omega)))
    have hf:bW (l[i]'him)=true∧atP l (aS (l[i]'him))=i:=h
    refine aO (X:={k:Nat//k≤i∧∀m (hm:m<k) (hml:m<l.length),(l[m]'hml).dot=(l[i]'him).dot→(l[m]'hml).time=(l[i]'him).time}) (fun y=>((((St.nil 122 st).pv 0 (.seq (l.map Pt.cells))).pv 3 ((PV.val (Value.int .i64 ((i:Nat)))))).pv 5 ((PV.val (Value.int .i64 ((y.1:Nat))))))) (fun y=>i-y.1) ⟨0,by omega,by omega⟩ ?_ (fun y=> ?_)
    · ((repeat (first|refine Sub.pv ?_ rfl|refine Sub.var ?_ rfl rfl));exact Sub.nil _ _ _ (StSub.refl _) rfl)
    obtain ⟨k,hk,hkinv⟩:=y
    dsimp only
    have hkl:k<l.length∨¬k<i:=by omega
    by_cases hki:k<i
    · have hkl:k<l.length:=by omega
      have hd:=Dt.ext_iff (l[k]'hkl).dot (l[i]'him).dot
      (try (apply wO pk;exact rfl));(repeat' (first|(show All _;constructor)|(show Imp _ _;constructor)|(show ImpX _ _ _ _;constructor)|(apply wC pk;(iterate 2 exact rfl))|(apply wE pk;(iterate 2 exact rfl))|(apply wX pk;exact rfl)|(apply wN pk;exact rfl)|(apply wD pk [] [];kernel_rfl;exact rfl;exact rfl)|(apply aB;simp only [zqt,zqf])|(refine aD rfl (fun h=> ?_) (fun h=> ?_)<;>(try simp at h)<;>try (exfalso;omega))|(refine aF ?_;refine ⟨_,_,_,rfl,Wk.refl _,StSub.refl _, ?_,rfl⟩;try first|rfl|((first|(rw [hn (fun q=>by have h1:=q.2.2.1 k hki;grind)];done));done))|(apply aW pk;(iterate 6 exact rfl);rotate_left;exact rfl;(intro hw;exact rfl);(intro hw;apply aI<;>omega);(intro _;exact rfl);exact rfl)|(refine ⟨⟨k+1,by omega,fun m h1 h2=>by rcases Nat.lt_succ_iff_lt_or_eq.1 h1 with q|q;exact hkinv m q h2;subst q;grind⟩, ?_,by simp only;omega⟩;((repeat (first|refine Sub.pv ?_ rfl|refine Sub.var ?_ rfl rfl));exact Sub.nil _ _ _ (StSub.refl _) rfl))|(intros;(try simp only [zql]);omega)))
    · have ht:∀m (hm:m<i),(l[m]'(by omega)).dot=(l[i]'him).dot→(l[m]'(by omega)).time=(l[i]'him).time:=fun m hm=>hkinv m (by omega) (by omega)
      cases hI:l.findIdx? (fun p=>decide (aS p=aR (l[i]'him))) with
      |none=>
        have e:atP l ⟨(l[i]'him).after,(l[i]'him).afterAt⟩= -1:=by rw [atP,show (⟨(l[i]'him).after,(l[i]'him).afterAt⟩:Nm)=aR (l[i]'him) from rfl,hI]
        rw [e] at hup
        (try (apply wO pk;exact rfl));(repeat' (first|(show All _;constructor)|(show Imp _ _;constructor)|(show ImpX _ _ _ _;constructor)|(apply wC pk;(iterate 2 exact rfl))|(apply wE pk;(iterate 2 exact rfl))|(apply wX pk;exact rfl)|(apply wN pk;exact rfl)|(apply wD pk [] [];kernel_rfl;exact rfl;exact rfl)|(apply aB;simp only [zqt,zqf])|(refine aD rfl (fun h=> ?_) (fun h=> ?_)<;>(try simp at h)<;>try (exfalso;omega))|(refine aF ?_;refine ⟨_,_,_,rfl,Wk.refl _,StSub.refl _, ?_,rfl⟩;try first|rfl|((first|(rw [hn (fun q=>by rcases q.2.2.2 with q|⟨u,hu,q,_⟩;(rw [hz] at q;grind);(rw [hI] at q;cases q))];done));done))|(apply aN;(iterate 3 exact rfl);(intro _;apply hup<;>first|assumption|omega);rotate_left;(iterate 2 exact rfl))|(apply aW pk;(iterate 6 exact rfl);rotate_left;exact rfl;(intro hw;exact rfl);(intro hw;apply aI<;>omega);(intro _;exact rfl);exact rfl)|(refine ⟨⟨i+1,by omega,hsucc ⟨hf.1,hf.2,ht, .inl (hz.2 (by grind))⟩⟩, ?_,by simp only;omega⟩;((repeat (first|refine Sub.pv ?_ rfl|refine Sub.var ?_ rfl rfl));exact Sub.nil _ _ _ (StSub.refl _) rfl))|(intros;(try simp only [zql]);omega)))
      |some u=>
        have e:atP l ⟨(l[i]'him).after,(l[i]'him).afterAt⟩=(u:Int):=by rw [atP,show (⟨(l[i]'him).after,(l[i]'him).afterAt⟩:Nm)=aR (l[i]'him) from rfl,hI]
        rw [e] at hup
        obtain ⟨hul,_,_⟩:=List.findIdx?_eq_some_iff_getElem.1 hI
        have hS:=Sp.ext_iff (bD (l[u]'hul)) (bD (l[i]'him))
        have ha:dG (l[u]'hul) (l[i]'him)=(gU (bD (l[u]'hul)) (bD (l[i]'him))||(decide (bD (l[u]'hul)=bD (l[i]'him))&&decide ((l[u]'hul).at_<(l[i]'him).at_))):=rfl
        (try (apply wO pk;exact rfl));(repeat' (first|(show All _;constructor)|(show Imp _ _;constructor)|(show ImpX _ _ _ _;constructor)|(apply wC pk;(iterate 2 exact rfl))|(apply wE pk;(iterate 2 exact rfl))|(apply wX pk;exact rfl)|(apply wN pk;exact rfl)|(apply wD pk [] [];kernel_rfl;exact rfl;exact rfl)|(apply aB;simp only [zqt,zqf])|(refine aD rfl (fun h=> ?_) (fun h=> ?_)<;>(try simp at h)<;>try (exfalso;omega))|(refine aF ?_;refine ⟨_,_,_,rfl,Wk.refl _,StSub.refl _, ?_,rfl⟩;try first|rfl|((first|(rw [hn (fun q=>by rcases q.2.2.2 with q|⟨u',hu',q,q2⟩;(rw [hz] at q;grind);(rw [hI] at q;injection q with q;subst q;rw [ha] at q2;grind))];done));done))|(apply aN;(iterate 3 exact rfl);(intro _;(first|apply hup|apply (iF (l[u]'hul))|apply (iF (l[i]'him))|apply (sO (bD (l[u]'hul)) (bD (l[i]'him))))<;>first|assumption|omega);rotate_left;(iterate 2 exact rfl))|(apply aW pk;(iterate 6 exact rfl);rotate_left;exact rfl;(intro hw;exact rfl);(intro hw;apply aI<;>omega);(intro _;exact rfl);exact rfl)|((first|refine ⟨⟨i+1,by omega,hsucc ⟨hf.1,hf.2,ht, .inl (hz.2 (by grind))⟩⟩, ?_,by simp only;omega⟩|refine ⟨⟨i+1,by omega,hsucc ⟨hf.1,hf.2,ht, .inr ⟨u,hul,hI,by rw [ha];grind⟩⟩⟩, ?_,by simp only;omega⟩);((repeat (first|refine Sub.pv ?_ rfl|refine Sub.var ?_ rfl rfl));exact Sub.nil _ _ _ (StSub.refl _) rfl))|(intros;(try simp only [zql]);omega)))
  · (try (apply wO pk;exact rfl));(repeat' (first|(show All _;constructor)|(show Imp _ _;constructor)|(show ImpX _ _ _ _;constructor)|(apply wC pk;(iterate 2 exact rfl))|(apply wE pk;(iterate 2 exact rfl))|(apply wX pk;exact rfl)|(apply wN pk;exact rfl)|(apply wD pk [] [];kernel_rfl;exact rfl;exact rfl)|(apply aB;simp only [zqt,zqf])|(refine aD rfl (fun h=> ?_) (fun h=> ?_)<;>(try simp at h)<;>try (exfalso;omega))|(refine aF ?_;refine ⟨_,_,_,rfl,Wk.refl _,StSub.refl _, ?_,rfl⟩;try first|rfl|((rw [(dZ l).2 (tW.2 fun j h=>hinv j (by omega) h)]);done))|(intros;(try simp only [zql]);omega)))
theorem Anc.pre {l:List Pt} {p:Pt} {s:List Pt} (h:Anc l p s):∀(c:Nat) (hc:c<s.length),Anc l s[c] (s.take (c+1)):=by
  induction h with
  |root hp h0=>
    intro c hc
    have:c=0:=by simpa using hc
    subst this;exact .root hp h0
  | @step p u r hp hu e h0 h ih=>
    intro c hc
    by_cases h1:c<r.length
    · have:=ih c h1
      rw [List.getElem_append_left h1,List.take_append_of_le_length (by omega)];exact this
    · have:c=r.length:=by simp at hc;omega
      subst this
      rw [List.take_of_length_le (by simp)]
      simp only [List.getElem_append_right (Nat.le_refl _),Nat.sub_self,List.getElem_singleton]
      exact .step hp hu e h0 h
theorem Anc.par {l:List Pt} {p:Pt} {s:List Pt} (h:Anc l p s):∀(c:Nat) (hc:c<s.length),(c=0→aR s[c]=Nm.zero)∧∀(h0:0<c),aR s[c]=aS (s[c-1]'(by omega))∧aR s[c]≠Nm.zero:=by
  intro c hc
  have hA:=h.pre c hc
  generalize he:s.take (c+1)=t at hA
  have hlen:t.length=c+1:=by rw [←he,List.length_take];omega
  have hq:s[c]=s[c]:=rfl
  cases hA with
  |root _ h0=>exact ⟨fun _=>h0,fun h1=>by simp at hlen;omega⟩
  | @step _ u r hp hu e h0 h'=>
    simp only [List.length_append,List.length_singleton] at hlen
    refine ⟨fun h1=> ?_,fun h1=>⟨?_,h0⟩⟩
    · subst h1
      obtain ⟨q,hq⟩:=h'.last
      rw [hq] at hlen;simp at hlen
    · rw [←e]
      obtain ⟨q,hq⟩:=h'.last
      have h2:r[c-1]?=some u:=by rw [hq,List.getElem?_append_right (by rw [hq] at hlen;simp at hlen;omega)];rw [hq] at hlen;simp at hlen;simp [show c-1-q.length=0 by omega]
      have h3:(s.take (c+1))[c-1]?=some u:=by rw [he,List.getElem?_append_left (by omega)];exact h2
      rw [List.getElem?_take,if_pos (by omega),List.getElem?_eq_getElem (by omega)] at h3
      injection h3 with h3
      rw [h3]
theorem alS :∀{s t:List Pt} (c:Nat) (hs:c<s.length) (ht:c<t.length),s.take c=t.take c→s[c]≠t[c]→(eZ s t↔dR s[c] t[c])
  |[],_,_,hs,_,_,_=>by simp at hs
  |_::_,[],_,_,ht,_,_=>by simp at ht
  |a::s,b::t,0,_,_,_,h=>by
    simp only [List.getElem_cons_zero] at h⊢
    simp only [eZ];constructor
    · rintro (⟨e,_⟩|e)
      · exact absurd e h
      · exact e
    · exact .inr
  |a::s,b::t,c+1,hs,ht,he,h=>by
    simp only [List.take_succ_cons,List.cons.injEq] at he
    simp only [List.getElem_cons_succ] at h⊢
    have:=alS c (by simpa using hs) (by simpa using ht) he.2 h
    simp only [eZ]
    rw [←this,he.1]
    constructor
    · rintro (⟨_,k⟩|k)
      · exact k
      · exact absurd k (pV b)
    · exact fun k=> .inl ⟨rfl,k⟩
theorem afH :∀{s t:List Pt},(∃m,s.take m=t.take m∧(m=s.length∧m≤t.length∨m=t.length∧m≤s.length))→(eZ s t↔s.length<t.length)
  |[],[],_=>by simp [eZ]
  |[],b::t,_=>by simp [eZ]
  |a::s,[],_=>by simp [eZ]
  |a::s,b::t,⟨m,he,hm⟩=>by
    cases m with
    |zero=>simp at hm
    |succ m=>
      simp only [List.take_succ_cons,List.cons.injEq] at he
      simp only [List.length_cons] at hm⊢
      have:=afH (s:=s) (t:=t) ⟨m,he.2,by omega⟩
      simp only [eZ,he.1]
      constructor
      · rintro (⟨_,k⟩|k)
        · have:=this.1 k;omega
        · exact absurd k (pV b)
      · intro k;exact .inl ⟨trivial,this.2 (by omega)⟩
theorem aaL {l:List Pt} (hn:(l.map aS).Nodup) {i j:Nat} (hi:i<l.length) (hj:j<l.length) (e:l[i]=l[j]):i=j:=by
  have h1:=eP hn hi
  have h2:=eP hn hj
  rw [e,h2] at h1
  omega
theorem Anc.len {l:List Pt} (hW:Whole l) {p:Pt} {s:List Pt} (h:Anc l p s):s.length≤(l.filter fun q=>dG q p).length+1:=by
  induction h with
  |root=>simp
  | @step p u r hp hu e h0 h ih=>
    rw [List.length_append,List.length_singleton]
    obtain ⟨v,hv,e2,ha⟩:=(hW.up p hp).resolve_left h0
    have:u=v:=hW.named u hu v hv (by rw [e,e2])
    subst this
    have:=mK (f:=fun q=>dG q u) (g:=fun q=>dG q p) (a:=u) hu ha (by rw [←Bool.not_eq_true,fN];omega) fun q _ hq=>by
      rw [fN] at ha hq⊢;omega
    omega
theorem Anc.le {l:List Pt} (hW:Whole l) {p:Pt} {s:List Pt} (h:Anc l p s):s.length≤l.length+1:=by
  have:=h.len hW
  have:=List.length_filter_le (fun q=>dG q p) l
  omega
theorem rK {l:List Pt} (hW:Whole l) (hl:l.length<1000000000000) {i:Nat} (hi:i<l.length) {s:List Pt} (hs:Anc l (l[i]'hi) s):PF Tryz.prog 232 [.seq (l.map Pt.cells),(PV.val (Value.int .i64 ((i:Nat))))] (PV.val (Value.int .i64 ((s.length:Int)-1))):=by
  have hsl:=hs.le hW
  refine aL aH Tryz.func232 (by kernel_rfl) rfl rfl rfl rfl (fun st=> ?_)
  (try (apply wO pk;exact rfl));(repeat' (first|(show All _;constructor)|(show Imp _ _;constructor)|(show ImpX _ _ _ _;constructor)|(apply wC pk;(iterate 2 exact rfl))|(apply wE pk;(iterate 2 exact rfl))|(apply wX pk;exact rfl)|(apply wN pk;exact rfl)|(apply wD pk [] [];kernel_rfl;exact rfl;exact rfl)|(apply aB;simp only [zqt,zqf])|(refine aD rfl (fun h=> ?_) (fun h=> ?_)<;>(try simp at h)<;>try (exfalso;omega))|(refine aF ?_;refine ⟨_,_,_,rfl,Wk.refl _,StSub.refl _, ?_,rfl⟩;try rfl)|(intros;(try simp only [zql]);omega)))
  refine aO (X:={x:Nat×List Pt×Nat//(∃h:x.1<l.length,Anc l l[x.1] x.2.1)∧x.2.1.length+x.2.2=s.length}) (fun i=>((((St.nil 28 st).pv 0 (.seq (l.map Pt.cells))).pv 1 ((PV.val (Value.int .i64 ((i.1.1:Nat)))))).pv 5 ((PV.val (Value.int .i64 ((i.1.2.2:Nat))))))) (fun i=>s.length-i.1.2.2) ⟨(i,s,0),⟨hi,hs⟩,by simp⟩ ?_ (fun i=> ?_)
  · ((repeat (first|refine Sub.pv ?_ rfl|refine Sub.var ?_ rfl rfl));exact Sub.nil _ _ _ (StSub.refl _) rfl)
  obtain ⟨⟨j,t,n⟩,⟨hj,hA⟩,hlen⟩:=i
  simp only at hj hA hlen
  dsimp only
  have hz:(l[j]'hj).after=Dt.zero↔(l[j]'hj).after.dev=0∧(l[j]'hj).after.seq=0:=Dt.ext_iff _ _
  have hr:=tK (hW.formed _ (List.getElem_mem hj))
  have hup:=oJ l (l[j]'hj).after (l[j]'hj).afterAt hl
  generalize hq:l[j]'hj=q at hA
  cases hA with
  |root hp h0=>
    obtain ⟨h1,h2⟩:=hz.1 (hr.2 (by rw [hq];exact h0))
    simp only [List.length_singleton] at hlen
    have hlen2:(n:Int)=(s.length:Int)-1:=by omega
    (try (apply wO pk;exact rfl));(repeat' (first|(show All _;constructor)|(show Imp _ _;constructor)|(show ImpX _ _ _ _;constructor)|(apply wC pk;(iterate 2 exact rfl))|(apply wE pk;(iterate 2 exact rfl))|(apply wX pk;exact rfl)|(apply wN pk;exact rfl)|(apply wD pk [] [];kernel_rfl;exact rfl;exact rfl)|(apply aB;simp only [zqt,zqf])|(refine aD rfl (fun h=> ?_) (fun h=> ?_)<;>(try simp at h)<;>try (exfalso;omega))|(refine aF ?_;refine ⟨_,_,_,rfl,Wk.refl _,StSub.refl _, ?_,rfl⟩;try first|rfl|((rw [hlen2]);done))|(apply aW pk;(iterate 6 exact rfl);rotate_left;exact rfl;(intro hw;exact rfl);(intro hw;apply aI<;>omega);(intro _;exact rfl);exact rfl)|(intros;(try simp only [zql]);omega)))
  | @step _ u r hp hu e h0 h=>
    obtain ⟨k,hk,rfl⟩:=List.getElem_of_mem hu
    have hat:=eP hW.nodup hk
    have hne:(l[j]'hj).after.dev≠0∨(l[j]'hj).after.seq≠0:=by
      have:¬(l[j]'hj).after=Dt.zero:=by rw [hr,hq];exact h0
      rw [hz] at this
      omega
    rw [show (⟨(l[j]'hj).after,(l[j]'hj).afterAt⟩:Nm)=aR (l[j]'hj) from rfl,hq,←e,hat,←hq] at hup
    simp only [List.length_append,List.length_singleton] at hlen
    have hH:=h
    (try (apply wO pk;exact rfl));(repeat' (first|(show All _;constructor)|(show Imp _ _;constructor)|(show ImpX _ _ _ _;constructor)|(apply wC pk;(iterate 2 exact rfl))|(apply wE pk;(iterate 2 exact rfl))|(apply wX pk;exact rfl)|(apply wN pk;exact rfl)|(apply wD pk [] [];kernel_rfl;exact rfl;exact rfl)|(apply aB;simp only [zqt,zqf])|(refine aD rfl (fun h=> ?_) (fun h=> ?_)<;>(try simp at h)<;>try (exfalso;omega))|(refine aF ?_;refine ⟨_,_,_,rfl,Wk.refl _,StSub.refl _, ?_,rfl⟩;try rfl)|(apply aN;(iterate 3 exact rfl);(intro _;apply hup<;>first|assumption|omega);rotate_left;(iterate 2 exact rfl))|(apply aW pk;(iterate 6 exact rfl);rotate_left;exact rfl;(intro hw;exact rfl);(intro hw;apply aI<;>omega);(intro _;exact rfl);exact rfl)|(refine ⟨⟨(k,r,n+1),⟨hk,hH⟩,by simp only;omega⟩, ?_,by simp only;omega⟩;((repeat (first|refine Sub.pv ?_ rfl|refine Sub.var ?_ rfl rfl));exact Sub.nil _ _ _ (StSub.refl _) rfl))|(intros;(try simp only [zql]);omega)))
theorem anY {l:List Pt} (hW:Whole l) (hl:l.length<1000000000000) {i:Nat} (hi:i<l.length) {s:List Pt} (hs:Anc l (l[i]'hi) s) (m:Nat) (hm:m<s.length) (j:Nat) (hj:j<l.length) (e:s[s.length-1-m]'(by omega)=l[j]):PF Tryz.prog 233 [.seq (l.map Pt.cells),(PV.val (Value.int .i64 ((i:Nat)))),(PV.val (Value.int .i64 ((m:Nat))))] (PV.val (Value.int .i64 ((j:Nat)))):=by
  have hsl:=hs.le hW
  refine aL aH Tryz.func233 (by kernel_rfl) rfl rfl rfl rfl (fun st=> ?_)
  (try (apply wO pk;exact rfl));(repeat' (first|(show All _;constructor)|(show Imp _ _;constructor)|(show ImpX _ _ _ _;constructor)|(apply wC pk;(iterate 2 exact rfl))|(apply wE pk;(iterate 2 exact rfl))|(apply wX pk;exact rfl)|(apply wN pk;exact rfl)|(apply wD pk [] [];kernel_rfl;exact rfl;exact rfl)|(apply aB;simp only [zqt,zqf])|(refine aD rfl (fun h=> ?_) (fun h=> ?_)<;>(try simp at h)<;>try (exfalso;omega))|(refine aF ?_;refine ⟨_,_,_,rfl,Wk.refl _,StSub.refl _, ?_,rfl⟩;try rfl)|(intros;(try simp only [zql]);omega)))
  refine aO (X:={x:Nat×Nat//(∃h:x.1<l.length,l[x.1]=s[s.length-1-x.2]'(by omega))∧x.2≤m}) (fun i=>(((((St.nil 26 st).pv 0 (.seq (l.map Pt.cells))).pv 1 ((PV.val (Value.int .i64 ((i.1.1:Nat)))))).pv 2 ((PV.val (Value.int .i64 ((m:Nat)))))).pv 7 ((PV.val (Value.int .i64 ((i.1.2:Nat))))))) (fun i=>m-i.1.2) ⟨(i,0),⟨hi,by obtain ⟨r,hr⟩:=hs.last;simp [hr]⟩,by simp⟩ ?_ (fun i=> ?_)
  · ((repeat (first|refine Sub.pv ?_ rfl|refine Sub.var ?_ rfl rfl));exact Sub.nil _ _ _ (StSub.refl _) rfl)
  obtain ⟨⟨k,n⟩,⟨hk,hA⟩,hn⟩:=i
  simp only at hk hA hn
  dsimp only
  have hup:=oJ l (l[k]'hk).after (l[k]'hk).afterAt hl
  by_cases hnm:n<m
  · obtain ⟨h1,h2⟩:=(hs.par (s.length-1-n) (by omega)).2 (by omega)
    have hmem:=hs.all _ (List.getElem_mem (show s.length-1-n-1<s.length by omega))
    obtain ⟨k2,hk2,hk2e⟩:=List.getElem_of_mem hmem
    have hat:=eP hW.nodup hk2
    rw [show (⟨(l[k]'hk).after,(l[k]'hk).afterAt⟩:Nm)=aR (l[k]'hk) from rfl,hA,h1,←hk2e,hat] at hup
    rw [←hA] at hup
    (try (apply wO pk;exact rfl));(repeat' (first|(show All _;constructor)|(show Imp _ _;constructor)|(show ImpX _ _ _ _;constructor)|(apply wC pk;(iterate 2 exact rfl))|(apply wE pk;(iterate 2 exact rfl))|(apply wX pk;exact rfl)|(apply wN pk;exact rfl)|(apply wD pk [] [];kernel_rfl;exact rfl;exact rfl)|(apply aB;simp only [zqt,zqf])|(refine aD rfl (fun h=> ?_) (fun h=> ?_)<;>(try simp at h)<;>try (exfalso;omega))|(refine aF ?_;refine ⟨_,_,_,rfl,Wk.refl _,StSub.refl _, ?_,rfl⟩;try rfl)|(apply aN;(iterate 3 exact rfl);(intro _;apply hup<;>first|assumption|omega);rotate_left;(iterate 2 exact rfl))|(apply aW pk;(iterate 6 exact rfl);rotate_left;exact rfl;(intro hw;exact rfl);(intro hw;apply aI<;>omega);(intro _;exact rfl);exact rfl)|(refine ⟨⟨(k2,n+1),⟨hk2,by simp only [hk2e];congr 1⟩,by simp only;omega⟩, ?_,by simp only;omega⟩;((repeat (first|refine Sub.pv ?_ rfl|refine Sub.var ?_ rfl rfl));exact Sub.nil _ _ _ (StSub.refl _) rfl))|(intros;(try simp only [zql]);omega)))
  · have:n=m:=by omega
    subst this
    obtain rfl:k=j:=aaL hW.nodup hk hj (by rw [hA,e])
    (try (apply wO pk;exact rfl));(repeat' (first|(show All _;constructor)|(show Imp _ _;constructor)|(show ImpX _ _ _ _;constructor)|(apply wC pk;(iterate 2 exact rfl))|(apply wE pk;(iterate 2 exact rfl))|(apply wX pk;exact rfl)|(apply wN pk;exact rfl)|(apply wD pk [] [];kernel_rfl;exact rfl;exact rfl)|(apply aB;simp only [zqt,zqf])|(refine aD rfl (fun h=> ?_) (fun h=> ?_)<;>(try simp at h)<;>try (exfalso;omega))|(refine aF ?_;refine ⟨_,_,_,rfl,Wk.refl _,StSub.refl _, ?_,rfl⟩;try rfl)|(apply aW pk;(iterate 6 exact rfl);rotate_left;exact rfl;(intro hw;exact rfl);(intro hw;apply aI<;>omega);(intro _;exact rfl);exact rfl)|(intros;(try simp only [zql]);omega)))
theorem afE {l:List Pt} (hW:Whole l) (hl:l.length<1000000000000) {i:Nat} (hi:i<l.length) {s:List Pt} (hs:Anc l (l[i]'hi) s) (m:Nat) (hm:m<s.length) (j:Nat) (hj:j<l.length) (e:s[s.length-1-m]'(by omega)=l[j]) {x:Int} (hx:x=m):PF Tryz.prog 233 [.seq (l.map Pt.cells),(PV.val (Value.int .i64 ((i:Nat)))),(PV.val (Value.int .i64 (x)))] (PV.val (Value.int .i64 ((j:Nat)))):=by
  subst hx;exact anY hW hl hi hs m hm j hj e
theorem Anc.eqTake {l:List Pt} (hn:named l) {p q:Pt} {s t:List Pt} (hs:Anc l p s) (ht:Anc l q t) {c:Nat} (h1:c<s.length) (h2:c<t.length) (e:s[c]=t[c]):s.take (c+1)=t.take (c+1):=
  (hs.pre c h1).fn hn (e▸ht.pre c h2)
theorem aiQ {l:List Pt} (hW:Whole l) {p q:Pt} {s t:List Pt} (hs:Anc l p s) (ht:Anc l q t) {c:Nat} (h1:c<s.length) (h2:c<t.length) (hne:s[c]≠t[c]) (hp:aR s[c]=aR t[c]):eZ s t↔dR s[c] t[c]:=by
  refine alS c h1 h2 ?_ hne
  cases c with
  |zero=>simp
  |succ c=>
    obtain ⟨a1,a2⟩:=(hs.par (c+1) h1).2 (by omega)
    obtain ⟨b1,b2⟩:=(ht.par (c+1) h2).2 (by omega)
    have:s[c]=t[c]:=hW.named _ (hs.all _ (List.getElem_mem _)) _ (ht.all _ (List.getElem_mem _)) (by
      have h1:aR s[c+1]=aS s[c]:=a1
      have h2:aR t[c+1]=aS t[c]:=b1
      rw [←h1,←h2,hp])
    exact hs.eqTake hW.named ht (by omega) (by omega) this
theorem aiY {l:List Pt} {p q:Pt} {s t:List Pt} (hs:Anc l p s) (ht:Anc l q t) {c:Nat} (h1:c<s.length) (h2:c<t.length) (hp:aR s[c]≠aR t[c]):0<c∧∀h:0<c,s[c-1]'(by omega)≠t[c-1]'(by omega):=by
  have h0:0<c:=by
    cases c with
    |zero=>exact absurd ((hs.par 0 h1).1 rfl|>.trans ((ht.par 0 h2).1 rfl).symm) hp
    |succ c=>omega
  refine ⟨h0,fun _ e=>hp ?_⟩
  rw [((hs.par c h1).2 h0).1,((ht.par c h2).2 h0).1,e]
theorem arL (a b:Pt):decide (dR a b)=if bD a=bD b then decide (a.at_<b.at_) else gU (bD b) (bD a):=by
  split
  · rename_i h;rw [decide_eq_decide];unfold dR;rw [h,vM];simp
  · rename_i h;rw [Bool.eq_iff_iff,decide_eq_true_eq];unfold dR;simp [h]
theorem yL {l:List Pt} (hW:Whole l) (hl:l.length<1000000000000) {i k:Nat} (hi:i<l.length) (hk:k<l.length) {s t:List Pt} (hs:Anc l (l[i]'hi) s) (ht:Anc l (l[k]'hk) t) (b:Bool) (hb:b=true↔eZ s t):PF Tryz.prog 208 [.seq (l.map Pt.cells),(PV.val (Value.int .i64 ((i:Nat)))),(PV.val (Value.int .i64 ((k:Nat))))] (PV.val (Value.bool (b))):=by
  have hsl:=hs.le hW
  have htl:=ht.le hW
  have hs0:0<s.length:=by obtain ⟨r,hr⟩:=hs.last;rw [hr];simp
  have ht0:0<t.length:=by obtain ⟨r,hr⟩:=ht.last;rw [hr];simp
  obtain ⟨c,hc⟩:∃c,c=min (s.length-1) (t.length-1):=⟨_,rfl⟩
  have hcs:c<s.length:=by omega
  have hct:c<t.length:=by omega
  obtain ⟨x,hx,hxe⟩:=List.getElem_of_mem (hs.all _ (List.getElem_mem hcs))
  obtain ⟨y,hy,hye⟩:=List.getElem_of_mem (ht.all _ (List.getElem_mem hct))
  have hu1:=fun {z:Int} (hz:z=((s.length-1-c:Nat):Int))=>afE hW hl hi hs (s.length-1-c) (by omega) x hx (by rw [hxe];congr 1;omega) hz
  have hu2:=fun {z:Int} (hz:z=((t.length-1-c:Nat):Int))=>afE hW hl hk ht (t.length-1-c) (by omega) y hy (by rw [hye];congr 1;omega) hz
  have hpre:x=y→(b=decide (((s.length:Int)-1)<((t.length:Int)-1))):=fun e=>by
    subst e
    have he:s[c]=t[c]:=by rw [←hxe,←hye]
    have:=afH (s:=s) (t:=t) ⟨c+1,hs.eqTake hW.named ht hcs hct he,by omega⟩
    rw [Bool.eq_iff_iff,hb,this,decide_eq_true_eq];omega
  refine aL aH Tryz.func208 (by kernel_rfl) rfl rfl rfl rfl (fun st=> ?_)
  (try (apply wO pk;exact rfl));(repeat' (first|(show All _;constructor)|(show Imp _ _;constructor)|(show ImpX _ _ _ _;constructor)|(apply wC pk;(iterate 2 exact rfl))|(apply wE pk;(iterate 2 exact rfl))|(apply wX pk;exact rfl)|(apply wN pk;exact rfl)|(apply wD pk [] [];kernel_rfl;exact rfl;exact rfl)|(apply aB;simp only [zqt,zqf])|(refine aD rfl (fun h=> ?_) (fun h=> ?_)<;>(try simp at h)<;>try (exfalso;omega))|(refine aF ?_;refine ⟨_,_,_,rfl,Wk.refl _,StSub.refl _, ?_,rfl⟩;try first|rfl|((rw [hpre (by omega)]);done))|(apply aN;(iterate 3 exact rfl);(intro _;(first|apply (rK hW hl hi hs)|apply (rK hW hl hk ht)|apply hu1|apply hu2)<;>first|assumption|omega);rotate_left;(iterate 2 exact rfl))|(intros;(try simp only [zql]);omega)))
  refine aO (X:={v:Nat×Nat×Nat//∃(h1:v.1<s.length) (h2:v.1<t.length) (hx:v.2.1<l.length) (hy:v.2.2<l.length),l[v.2.1]=s[v.1]∧l[v.2.2]=t[v.1]∧s[v.1]≠t[v.1]}) (fun v=>((((St.nil 98 st).pv 0 (.seq (l.map Pt.cells))).pv 10 ((PV.val (Value.int .i64 ((v.1.2.1:Nat)))))).pv 11 ((PV.val (Value.int .i64 ((v.1.2.2:Nat))))))) (fun v=>v.1.1) ⟨(c,x,y),hcs,hct,hx,hy,hxe,hye,fun e=>(by exact h (by have:=aaL hW.nodup hx hy (by rw [hxe,hye,e]);omega))⟩ ?_ (fun v=> ?_)
  · ((repeat (first|refine Sub.pv ?_ rfl|refine Sub.var ?_ rfl rfl));exact Sub.nil _ _ _ (StSub.refl _) rfl)
  clear hu1 hu2 hpre hxe hye hx hy
  obtain ⟨⟨c,x,y⟩,hcs,hct,hx,hy,hxe,hye,hne⟩:=v
  simp only at hcs hct hx hy hxe hye hne
  dsimp only
  have hpe:aR (l[x]'hx)=aR (l[y]'hy)↔((l[x]'hx).after.dev=(l[y]'hy).after.dev∧(l[x]'hx).after.seq=(l[y]'hy).after.seq)∧(l[x]'hx).afterAt=(l[y]'hy).afterAt:=by
    rw [Nm.ext_iff,Dt.ext_iff];rfl
  by_cases hp:aR (l[x]'hx)=aR (l[y]'hy)
  · obtain ⟨⟨p1,p2⟩,p3⟩:=hpe.1 hp
    have hS:=Sp.ext_iff (bD (l[x]'hx)) (bD (l[y]'hy))
    have hb2:b=if bD (l[x]'hx)=bD (l[y]'hy) then decide ((l[x]'hx).at_<(l[y]'hy).at_) else gU (bD (l[y]'hy)) (bD (l[x]'hx)):=by
      rw [←arL,Bool.eq_iff_iff,hb,decide_eq_true_eq,aiQ hW hs ht hcs hct hne (by rw [←hxe,←hye];exact hp),hxe,hye]
    (try (apply wO pk;exact rfl));(repeat' (first|(show All _;constructor)|(show Imp _ _;constructor)|(show ImpX _ _ _ _;constructor)|(apply wC pk;(iterate 2 exact rfl))|(apply wE pk;(iterate 2 exact rfl))|(apply wX pk;exact rfl)|(apply wN pk;exact rfl)|(apply wD pk [] [];kernel_rfl;exact rfl;exact rfl)|(apply aB;simp only [zqt,zqf])|(refine aD rfl (fun h=> ?_) (fun h=> ?_)<;>(try simp at h)<;>try (exfalso;omega))|(refine aF ?_;refine ⟨_,_,_,rfl,Wk.refl _,StSub.refl _, ?_,rfl⟩;try first|rfl|((first|(rw [hb2,if_pos (by grind)];done)|(rw [hb2,if_neg (by grind)]));done))|(apply aN;(iterate 3 exact rfl);(intro _;(first|apply (iF (l[x]'hx))|apply (iF (l[y]'hy))|apply (sO (bD (l[y]'hy)) (bD (l[x]'hx))))<;>first|assumption|omega);rotate_left;(iterate 2 exact rfl))|(apply aW pk;(iterate 6 exact rfl);rotate_left;exact rfl;(intro hw;exact rfl);(intro hw;apply aI<;>omega);(intro _;exact rfl);exact rfl)|(intros;(try simp only [zql]);omega)))
  · have hn:¬(((l[x]'hx).after.dev=(l[y]'hy).after.dev∧(l[x]'hx).after.seq=(l[y]'hy).after.seq)∧(l[x]'hx).afterAt=(l[y]'hy).afterAt):=fun h=>hp (hpe.2 h)
    obtain ⟨hc0,hne2⟩:=aiY hs ht hcs hct (by rw [←hxe,←hye];exact hp)
    have hne2:=hne2 hc0
    obtain ⟨x2,hx2,hxe2⟩:=List.getElem_of_mem (hs.all _ (List.getElem_mem (show c-1<s.length by omega)))
    obtain ⟨y2,hy2,hye2⟩:=List.getElem_of_mem (ht.all _ (List.getElem_mem (show c-1<t.length by omega)))
    have ls:(s.take (c+1)).length=c+1:=by rw [List.length_take];omega
    have lt:(t.take (c+1)).length=c+1:=by rw [List.length_take];omega
    have hu1:=afE hW hl hx (s:=s.take (c+1)) (by rw [hxe];exact hs.pre c hcs) 1 (by omega) x2 hx2 (by rw [hxe2,List.getElem_take];congr 1;omega) (x:=1) rfl
    have hu2:=afE hW hl hy (s:=t.take (c+1)) (by rw [hye];exact ht.pre c hct) 1 (by omega) y2 hy2 (by rw [hye2,List.getElem_take];congr 1;omega) (x:=1) rfl
    (try (apply wO pk;exact rfl));(repeat' (first|(show All _;constructor)|(show Imp _ _;constructor)|(show ImpX _ _ _ _;constructor)|(apply wC pk;(iterate 2 exact rfl))|(apply wE pk;(iterate 2 exact rfl))|(apply wX pk;exact rfl)|(apply wN pk;exact rfl)|(apply wD pk [] [];kernel_rfl;exact rfl;exact rfl)|(apply aB;simp only [zqt,zqf])|(refine aD rfl (fun h=> ?_) (fun h=> ?_)<;>(try simp at h)<;>try (exfalso;omega))|(refine aF ?_;refine ⟨_,_,_,rfl,Wk.refl _,StSub.refl _, ?_,rfl⟩;try rfl)|(apply aN;(iterate 3 exact rfl);(intro _;(first|apply hu1|apply hu2)<;>first|assumption|omega);rotate_left;(iterate 2 exact rfl))|(apply aW pk;(iterate 6 exact rfl);rotate_left;exact rfl;(intro hw;exact rfl);(intro hw;apply aI<;>omega);(intro _;exact rfl);exact rfl)|(refine ⟨⟨(c-1,x2,y2),by simp only;omega,by simp only;omega,hx2,hy2,hxe2,hye2,hne2⟩, ?_,by simp only;omega⟩;((repeat (first|refine Sub.pv ?_ rfl|refine Sub.var ?_ rfl rfl));exact Sub.nil _ _ _ (StSub.refl _) rfl))|(intros;(try simp only [zql]);omega)))
end Go.Proofs.YtddmbnddgiebgaaGreatDoor.T
namespace Go.Proofs.YtddmbnddgiebgaaGreatDoor.T
open Go Go.Abs
attribute [local irreducible] Ev PWp
set_option maxRecDepth 10000
set_option maxHeartbeats 4000000
section
variable {P:Program} {tt:TT} {l:List Oper} {d:Md} {r:List Oper} {s:St} {K:St→Prop} {t:Nat} {ty:TypeId} {pos:String} {after:Array Edge}
theorem aqF {α:Type} {f:α→List PV} (pk:Pk P tt) (z0:α) {T e:TypeId} {x y:Operand} {kx ky:IntKind} {n B sz:Nat} {z:List Value} {a b:Int} (hx:opd s x=some (.val (.int kx a))) (hy:opd s y=some (.val (.int ky b))) (hk:tiK tt T=some (.slice e)) (hs:aY tt e=some sz) (hz:tiZ tt e=some z) (hzl:z.length=sz) (hpos:Nat.blt 0 sz=true) (hf0:z.map .val=f z0) (hf:bR s [x,y]=true) (hd:Nat.blt t s.n=true) (ht:iB d l r=true)
    (ha:a=n) (hb':b=n) (hB:P.bytesOf e=B) (hb:n*B≤140737488355328) (h62:n<4611686018427387904) (k:∀id,s.st id=none→Ev P l d r ((s.sst (upd s.st id (some (.arr e ((List.replicate n z0).map f))))).pv t (.vec id sz 0 n)) K):Ev P l d (⟨some t, .makeSlice T x y,ty,pos,after,none⟩::r) s K:=by
  subst ha hb'
  refine eA (nF pk.htt hx hy hk hs hz hzl (by simpa [Nat.blt_eq] using hpos) hB hb h62) (fun z hz=>bA (fun _ _ _ e=>by cases e) hz) hf hd ht fun zz hzz=> ?_
  obtain ⟨id,h1,rfl⟩:=hzz
  have:=k id h1
  rw [List.map_replicate,←hf0] at this
  exact this
end
def nB (D:List Pt) (p:Pt):Int:=atP D (aS p)
theorem aiX {D:List Pt} (hn:(D.map aS).Nodup):∀(m:Nat),m≤D.length→D.countP (fun p=>decide (nB D p<m))=m:=by
  intro m hm
  have h1:(D.take m).countP (fun p=>decide (nB D p<m))=m:=by
    rw [List.countP_eq_length.2 fun p hp=> ?_,List.length_take];omega
    obtain ⟨j,hj,rfl⟩:=List.getElem_of_mem hp
    simp only [List.length_take] at hj
    rw [List.getElem_take,decide_eq_true_eq,nB,eP hn (by omega)];omega
  have h2:(D.drop m).countP (fun p=>decide (nB D p<m))=0:=by
    rw [List.countP_eq_zero]
    intro p hp
    obtain ⟨j,hj,rfl⟩:=List.getElem_of_mem hp
    simp only [List.length_drop] at hj
    rw [List.getElem_drop,decide_eq_true_eq,nB,eP hn (by omega)];omega
  calc D.countP (fun p=>decide (nB D p<m))=(D.take m++D.drop m).countP (fun p=>decide (nB D p<m)):=by rw [List.take_append_drop]
    _=m:=by rw [List.countP_append,h1,h2];rfl
theorem acJ (l:List Pt) (hl:l.length<1000000000000):PF Tryz.prog 186 [.seq (l.map Pt.cells)] (.seq ((dL l).map Pt.cells)):=by
  refine agQ alQ fun st=> ?_
  by_cases hok:Whole l∧l.length≤2000
  · obtain ⟨hW,h2000⟩:=hok
    obtain ⟨hp,hs⟩:=oZ hW h2000
    obtain ⟨D,hD⟩:∃D,dL l=D:=⟨_,rfl⟩
    rw [hD] at hp hs⊢
    have hDn:(D.map aS).Nodup:=(hp.map aS).nodup_iff.2 hW.nodup
    have hDl:D.length=l.length:=hp.length_eq
    have hpos:∀p∈l,∃(j:Nat) (hj:j<D.length),D[j]=p∧nB D p=j:=fun p hpm=>by
      obtain ⟨j,hj,e⟩:=List.getElem_of_mem (hp.symm.subset hpm)
      exact ⟨j,hj,e,by rw [←e,nB,eP hDn hj]⟩
    have hlt:∀p∈l,∀q∈l,(nB D p<nB D q↔ltP l p q):=fun p hpm q hqm=>by
      obtain ⟨i,hi,e1,p1⟩:=hpos p hpm
      obtain ⟨j,hj,e2,p2⟩:=hpos q hqm
      have hPw:=List.pairwise_iff_getElem.1 hs
      rw [p1,p2]
      constructor
      · intro h;rw [←e1,←e2];exact hPw i j hi hj (by omega)
      · intro h
        rcases Nat.lt_trichotomy i j with k|k|k
        · omega
        · subst k;rw [←e1,←e2] at h;exact absurd h (afP hW.named _)
        · have:=hPw j i hj hi k;rw [e1,e2] at this;exact (amZ hW.named h this).elim
    have hwl:cP l=true:=(dZ l).2 hW
    have hsp:=mA l hl
    rw [hwl] at hsp
    refine cR aH Tryz.func186 (by kernel_rfl) rfl rfl rfl rfl ?_
    (try (apply wO pk;exact rfl));(repeat' (first|(show All _;constructor)|(show Imp _ _;constructor)|(show ImpX _ _ _ _;constructor)|(apply wC pk;(iterate 2 exact rfl))|(apply wE pk;(iterate 2 exact rfl))|(apply wX pk;exact rfl)|(apply wN pk;exact rfl)|(apply wD pk [] [];kernel_rfl;exact rfl;exact rfl)|(apply aB;simp only [zqt,zqf])|(refine aD rfl (fun h=> ?_) (fun h=> ?_)<;>(try simp at h)<;>try (exfalso;omega))|(refine aF ?_;refine ⟨_,_,_,rfl,Wk.refl _,StSub.refl _, ?_,rfl⟩;try rfl)|(apply aN;(iterate 3 exact rfl);(intro _;apply hsp<;>first|assumption|omega);rotate_left;(iterate 2 exact rfl))|(apply aqF pk Pt.zero (f:=Pt.cells) (n:=l.length) (B:=96);(iterate 11 exact rfl);(focus (simp;done));(focus (simp;done));exact jP;omega;omega;intro id hid)|(intros;(try simp only [zql]);omega)))
    have hid:st id=none:=hid
    refine aO (X:={x:Nat×List Pt//x.1≤l.length∧x.2.length=l.length∧∀j (h:j<x.1) (h2:j<l.length) (m:Nat),nB D (l[j]'h2)=(m:Int)→x.2[m]?=some (l[j]'h2)}) (fun i=>((((St.nil 51 (upd st id (some (.arr 130 (i.1.2.map Pt.cells))))).pv 0 (.seq (l.map Pt.cells))).pv 4 (.vec id 11 0 l.length)).pv 5 ((PV.val (Value.int .i64 ((i.1.1:Nat))))))) (fun i=>l.length-i.1.1) ⟨(0,List.replicate l.length Pt.zero),by simp,by simp,by simp⟩ ?_ (fun i=> ?_)
    · (first|exact Sub.nil _ _ _ (StSub.refl _) rfl|((repeat (first|refine Sub.pv ?_ rfl|refine Sub.var ?_ rfl rfl));(first|exact Sub.nil _ _ _ (StSub.refl _) rfl|exact Sub.nil _ _ _ (aP (by assumption)) rfl|exact Sub.nil _ _ _ (aJ (by first|rfl|exact aT (by assumption)|((simp only [St.pv,St.put,St.sst,St.setv,St.nil,St.var,aK]);first|done|rfl))) rfl|(refine Sub.nil _ _ _ (aJ ?_) rfl;(simp only [St.pv,St.put,St.sst,St.setv,St.nil,St.var,aK]);(rw [cI (by assumption)]);first|done|rfl))))
    obtain ⟨⟨i,O⟩,hi,hO,hinv⟩:=i
    simp only at hi hO hinv
    dsimp only
    by_cases him:i<l.length
    · obtain ⟨f,hf⟩:∃f:Pt→Bool,f=fun p=>decide (nB D p<nB D (l[i]'him)):=⟨_,rfl⟩
      (try (apply wO pk;exact rfl));(repeat' (first|(show All _;constructor)|(show Imp _ _;constructor)|(show ImpX _ _ _ _;constructor)|(apply wC pk;(iterate 2 exact rfl))|(apply wE pk;(iterate 2 exact rfl))|(apply wX pk;exact rfl)|(apply wN pk;exact rfl)|(apply wD pk [] [];kernel_rfl;exact rfl;exact rfl)|(apply aB;simp only [zqt,zqf])|(refine aD rfl (fun h=> ?_) (fun h=> ?_)<;>(try simp at h)<;>try (exfalso;omega))|(refine aF ?_;refine ⟨_,_,_,rfl,Wk.refl _,StSub.refl _, ?_,rfl⟩;try rfl)|(apply aW pk;(iterate 6 exact rfl);rotate_left;exact rfl;(intro hw;exact rfl);(intro hw;apply aI<;>omega);(intro _;exact rfl);exact rfl)|(intros;(try simp only [zql]);omega)))
      refine aO (X:={k:Nat//k≤l.length}) (fun y=>((((((St.nil 51 (upd st id (some (.arr 130 (O.map Pt.cells))))).pv 0 (.seq (l.map Pt.cells))).pv 4 (.vec id 11 0 l.length)).pv 5 ((PV.val (Value.int .i64 ((i:Nat)))))).pv 6 ((PV.val (Value.int .i64 ((((l.take y.1).countP f:Nat):Int)))))).pv 7 ((PV.val (Value.int .i64 ((y.1:Nat))))))) (fun y=>l.length-y.1) ⟨0,by omega⟩ ?_ (fun y=> ?_)
      · (first|exact Sub.nil _ _ _ (StSub.refl _) rfl|((repeat (first|refine Sub.pv ?_ rfl|refine Sub.var ?_ rfl rfl));(first|exact Sub.nil _ _ _ (StSub.refl _) rfl|exact Sub.nil _ _ _ (aP (by assumption)) rfl|exact Sub.nil _ _ _ (aJ (by first|rfl|exact aT (by assumption)|((simp only [St.pv,St.put,St.sst,St.setv,St.nil,St.var,aK]);first|done|rfl))) rfl|(refine Sub.nil _ _ _ (aJ ?_) rfl;(simp only [St.pv,St.put,St.sst,St.setv,St.nil,St.var,aK]);(rw [cI (by assumption)]);first|done|rfl))))
      obtain ⟨k,hk⟩:=y
      dsimp only
      have hcl:(l.take k).countP f≤k:=Nat.le_trans (List.countP_le_length) (by rw [List.length_take];omega)
      by_cases hkl:k<l.length
      · have hstep:(l.take (k+1)).countP f=(l.take k).countP f+if f (l[k]'hkl)=true then 1 else 0:=by
          rw [List.take_succ_eq_append_getElem hkl,List.countP_append];simp [List.countP_singleton]
        obtain ⟨s,hs1⟩:=Anc.ex hW _ (l[k]'hkl) (List.getElem_mem hkl) (Nat.le_refl _)
        obtain ⟨t,ht1⟩:=Anc.ex hW _ (l[i]'him) (List.getElem_mem him) (Nat.le_refl _)
        have hb:f (l[k]'hkl)=true↔eZ s t:=by
          rw [hf,decide_eq_true_eq,hlt _ (List.getElem_mem hkl) _ (List.getElem_mem him)]
          constructor
          · rintro ⟨s',t',h1,h2,h3⟩;rw [hs1.fn hW.named h1,ht1.fn hW.named h2];exact h3
          · exact fun h=>⟨s,t,hs1,ht1,h⟩
        have hself:k=i→f (l[k]'hkl)=false:=fun e=>by subst e;rw [hf];simp
        (try (apply wO pk;exact rfl));(repeat' (first|(show All _;constructor)|(show Imp _ _;constructor)|(show ImpX _ _ _ _;constructor)|(apply wC pk;(iterate 2 exact rfl))|(apply wE pk;(iterate 2 exact rfl))|(apply wX pk;exact rfl)|(apply wN pk;exact rfl)|(apply wD pk [] [];kernel_rfl;exact rfl;exact rfl)|(apply aB;simp only [zqt,zqf])|(refine aD rfl (fun h=> ?_) (fun h=> ?_)<;>(try simp at h)<;>try (exfalso;omega))|(refine aF ?_;refine ⟨_,_,_,rfl,Wk.refl _,StSub.refl _, ?_,rfl⟩;try rfl)|(apply aN;(iterate 3 exact rfl);(intro _;apply (yL hW hl hkl him hs1 ht1 (f (l[k]'hkl)) hb)<;>first|assumption|omega);rotate_left;(iterate 2 exact rfl))|(refine ⟨⟨k+1,by omega⟩, ?_,by simp only;omega⟩;((repeat (first|refine Sub.pv ?_ rfl|refine Sub.var ?_ rfl rfl|refine Sub.pv' ?_ rfl (by (first|(rw [hstep,if_pos (by assumption)];simp;done)|(rw [hstep,if_neg (by rw [h];simp)];rfl)|(rw [hstep,if_neg (by rw [hself (by omega)];simp)];rfl)))|refine Sub.var' ?_ rfl rfl (by (first|(rw [hstep,if_pos (by assumption)];simp;done)|(rw [hstep,if_neg (by rw [h];simp)];rfl)|(rw [hstep,if_neg (by rw [hself (by omega)];simp)];rfl)))));exact Sub.nil _ _ _ (StSub.refl _) rfl))|(intros;(try simp only [zql]);omega)))
      · obtain ⟨m,hm,hme,hpm⟩:=hpos _ (List.getElem_mem him)
        have htk:l.take k=l:=List.take_of_length_le (by omega)
        have hc:(l.take k).countP f=m:=by
          rw [htk,←(hp.countP_eq f),hf,hpm]
          exact aiX hDn m (by omega)
        rw [hc]
        have hmO:m<O.length:=by omega
        have hnext:∀j (h:j<i+1) (h2:j<l.length) (n:Nat),nB D (l[j]'h2)=(n:Int)→(O.set m (l[i]'him))[n]?=some (l[j]'h2):=fun j h1 h2 n hn=>by
          by_cases hmn:m=n
          · subst hmn
            rw [List.getElem?_set_self hmO]
            obtain ⟨j',hj',e1,e2⟩:=hpos _ (List.getElem_mem h2)
            have:j'=m:=by omega
            subst this
            rw [←e1,hme]
          · rw [List.getElem?_set_ne hmn]
            rcases Nat.lt_succ_iff_lt_or_eq.1 h1 with q|q
            · exact hinv j q h2 n hn
            · subst q;omega
        (try (apply wO pk;exact rfl));(repeat' (first|(apply stF pk (f:=Pt.cells) (O[m]'hmO) (l[i]'him);exact rfl;exact rfl;exact aA _ _ _;exact rfl;exact List.getElem?_eq_getElem hmO;exact rfl;exact rfl)|(show All _;constructor)|(show Imp _ _;constructor)|(show ImpX _ _ _ _;constructor)|(apply wC pk;(iterate 2 exact rfl))|(apply wE pk;(iterate 2 exact rfl))|(apply wX pk;exact rfl)|(apply wN pk;exact rfl)|(apply wDx pk;exact rfl;kernel_rfl;exact rfl;exact rfl)|(apply aB;simp only [zqt,zqf])|(refine aD rfl (fun h=> ?_) (fun h=> ?_)<;>(try simp at h)<;>try (exfalso;omega))|(refine aF ?_;refine ⟨_,_,_,rfl,Wk.refl _,StSub.refl _, ?_,rfl⟩;try rfl)|(apply aW pk;(iterate 6 exact rfl);rotate_left;exact rfl;(intro hw;exact rfl);(intro hw;apply aI<;>omega);(intro _;exact rfl);exact rfl)|(apply ncA;(iterate 3 exact rfl);rotate_left;exact rfl;exact rfl)|(apply ldR pk;exact rfl;exact rfl;rotate_left;exact rfl;(focus ((repeat (first|exact aA _ _ _|assumption|refine (aC (by assumption)).trans ?_));done));exact rfl;exact rfl)|(apply stR pk;exact rfl;exact rfl;(focus ((repeat (first|exact aA _ _ _|assumption|refine (aC (by assumption)).trans ?_));done));exact rfl;exact rfl)|(apply ixA pk;(iterate 5 exact rfl);rotate_left;exact rfl;(intro hw;(first|exact (show _=((m:Nat):Int) from by omega)|(simp [gw] at hw;first|exact (show _=((m:Nat):Int) from by omega)|(refine (show _=((0:Nat):Int) from ?_);omega))|exact rfl));(intro hw;(first|omega|(focus (simp [gw] at hw;done))|(simp [gw] at hw;omega)|(simp only [zqs];omega)));exact rfl;(first|exact Nat.zero_add _|exact rfl))|(apply ldA pk Pt.elem;exact rfl;exact rfl;rotate_left;exact rfl;(focus ((repeat (first|exact aA _ _ _|assumption|refine (aC (by assumption)).trans ?_));done));(intro hw;(first|omega|(focus (simp [gw] at hw;done))|(simp [gw] at hw;omega)|(simp only [zqs];omega)));exact rfl)|(apply stA pk Pt.elem;(iterate 3 exact rfl);(focus ((repeat (first|exact aA _ _ _|assumption|refine (aC (by assumption)).trans ?_));done));(first|omega|(simp only [zqs];omega));exact rfl)|(refine ⟨⟨(i+1,O.set m (l[i]'him)),by simp only;omega,by simp only [List.length_set];exact hO,hnext⟩, ?_,by simp only;omega⟩;(first|exact Sub.nil _ _ _ (StSub.refl _) rfl|((repeat (first|refine Sub.pv ?_ rfl|refine Sub.var ?_ rfl rfl));(first|exact Sub.nil _ _ _ (StSub.refl _) rfl|exact Sub.nil _ _ _ (aP (by assumption)) rfl|exact Sub.nil _ _ _ (aJ (by first|rfl|exact aT (by assumption)|((simp only [St.pv,St.put,St.sst,St.setv,St.nil,St.var,aK]);first|done|rfl))) rfl|(refine Sub.nil _ _ _ (aJ ?_) rfl;(simp only [St.pv,St.put,St.sst,St.setv,St.nil,St.var,aK]);(rw [cI (by assumption)]);first|done|rfl)))))|(intros;(try simp only [zql]);omega)))
    · have hOD:O=D:=by
        apply List.ext_getElem?
        intro m
        by_cases hm:m<D.length
        · obtain ⟨j,hj,e⟩:=List.getElem_of_mem (hp.subset (List.getElem_mem hm))
          have:=hinv j (by omega) hj m (by rw [e,nB,eP hDn hm])
          rw [this,e,List.getElem?_eq_getElem hm]
        · rw [List.getElem?_eq_none (by omega),List.getElem?_eq_none (by omega)]
      subst hOD
      (try (apply wO pk;exact rfl));(repeat' (first|(show All _;constructor)|(show Imp _ _;constructor)|(show ImpX _ _ _ _;constructor)|(apply wC pk;(iterate 2 exact rfl))|(apply wE pk;(iterate 2 exact rfl))|(apply wX pk;exact rfl)|(apply wN pk;exact rfl)|(apply wDx pk;exact rfl;kernel_rfl;exact rfl;exact rfl)|(apply aB;simp only [zqt,zqf])|(refine aD rfl (fun h=> ?_) (fun h=> ?_)<;>(try simp at h)<;>try (exfalso;omega))|((try refine aF ?_);(first|(refine ⟨_,_,_,rfl,Wk.refl _,StSub.refl _, ?_⟩;((exact .inl ⟨id,by rw [zql,hO],hid,aA _ _ _,bP hid⟩));done)|(refine ⟨_,_, ?zs,rfl,Wk.refl _, ?zh, ?zr⟩;(case zh=>(refine aG ?_ (by assumption);(repeat refine aG ?_ (by assumption));exact StSub.refl _));(case zr=>((exact .inl ⟨id,by rw [zql,hO],hid,aA _ _ _,bP hid⟩))))|refine ⟨_,_,_,rfl,Wk.refl _,StSub.refl _, ?_⟩))|(apply ncA;(iterate 3 exact rfl);rotate_left;exact rfl;exact rfl)|(apply ldR pk;exact rfl;exact rfl;rotate_left;exact rfl;(focus ((repeat (first|exact aA _ _ _|assumption|refine (aC (by assumption)).trans ?_));done));exact rfl;exact rfl)|(apply stR pk;exact rfl;exact rfl;(focus ((repeat (first|exact aA _ _ _|assumption|refine (aC (by assumption)).trans ?_));done));exact rfl;exact rfl)|(intros;(try simp only [zql]);omega)))
  · have hno:dL l=[]:=sY hok
    rw [hno]
    have hw:cP l=true→¬l.length≤2000:=fun h h2=>hok ⟨(dZ l).1 h,h2⟩
    have hsp:=mA l hl
    cases hwv:cP l with
    |false=>
      rw [hwv] at hsp
      refine cR aH Tryz.func186 (by kernel_rfl) rfl rfl rfl rfl ?_
      (try (apply wO pk;exact rfl));(repeat' (first|(show All _;constructor)|(show Imp _ _;constructor)|(show ImpX _ _ _ _;constructor)|(apply wC pk;(iterate 2 exact rfl))|(apply wE pk;(iterate 2 exact rfl))|(apply wX pk;exact rfl)|(apply wN pk;exact rfl)|(apply wDx pk;exact rfl;kernel_rfl;exact rfl;exact rfl)|(apply aB;simp only [zqt,zqf])|(refine aD rfl (fun h=> ?_) (fun h=> ?_)<;>(try simp at h)<;>try (exfalso;omega))|((try refine aF ?_);(first|(refine ⟨_,_,_,rfl,Wk.refl _,StSub.refl _, ?_⟩;((exact .inr ⟨rfl,rfl,StSub.refl _⟩));done)|(refine ⟨_,_, ?zs,rfl,Wk.refl _, ?zh, ?zr⟩;(case zh=>(refine aG ?_ (by assumption);(repeat refine aG ?_ (by assumption));exact StSub.refl _));(case zr=>((exact .inr ⟨rfl,rfl,StSub.refl _⟩))))|refine ⟨_,_,_,rfl,Wk.refl _,StSub.refl _, ?_⟩))|(apply aN;(iterate 3 exact rfl);(intro _;apply hsp<;>first|assumption|omega);rotate_left;(iterate 2 exact rfl))|(apply bZ;(iterate 3 exact rfl);(intro _;apply hsp<;>first|assumption|omega);rotate_left;(iterate 2 exact rfl))|(apply ncA;(iterate 3 exact rfl);rotate_left;exact rfl;exact rfl)|(apply ldR pk;exact rfl;exact rfl;rotate_left;exact rfl;(focus ((repeat (first|exact aA _ _ _|assumption|refine (aC (by assumption)).trans ?_));done));exact rfl;exact rfl)|(apply stR pk;exact rfl;exact rfl;(focus ((repeat (first|exact aA _ _ _|assumption|refine (aC (by assumption)).trans ?_));done));exact rfl;exact rfl)|(intros;(try simp only [zql]);omega)))
    |true=>
      rw [hwv] at hsp
      have hl2:=hw hwv
      refine cR aH Tryz.func186 (by kernel_rfl) rfl rfl rfl rfl ?_
      (try (apply wO pk;exact rfl));(repeat' (first|(show All _;constructor)|(show Imp _ _;constructor)|(show ImpX _ _ _ _;constructor)|(apply wC pk;(iterate 2 exact rfl))|(apply wE pk;(iterate 2 exact rfl))|(apply wX pk;exact rfl)|(apply wN pk;exact rfl)|(apply wDx pk;exact rfl;kernel_rfl;exact rfl;exact rfl)|(apply aB;simp only [zqt,zqf])|(refine aD rfl (fun h=> ?_) (fun h=> ?_)<;>(try simp at h)<;>try (exfalso;omega))|((try refine aF ?_);(first|(refine ⟨_,_,_,rfl,Wk.refl _,StSub.refl _, ?_⟩;((exact .inr ⟨rfl,rfl,StSub.refl _⟩));done)|(refine ⟨_,_, ?zs,rfl,Wk.refl _, ?zh, ?zr⟩;(case zh=>(refine aG ?_ (by assumption);(repeat refine aG ?_ (by assumption));exact StSub.refl _));(case zr=>((exact .inr ⟨rfl,rfl,StSub.refl _⟩))))|refine ⟨_,_,_,rfl,Wk.refl _,StSub.refl _, ?_⟩))|(apply aN;(iterate 3 exact rfl);(intro _;apply hsp<;>first|assumption|omega);rotate_left;(iterate 2 exact rfl))|(apply bZ;(iterate 3 exact rfl);(intro _;apply hsp<;>first|assumption|omega);rotate_left;(iterate 2 exact rfl))|(apply ncA;(iterate 3 exact rfl);rotate_left;exact rfl;exact rfl)|(apply ldR pk;exact rfl;exact rfl;rotate_left;exact rfl;(focus ((repeat (first|exact aA _ _ _|assumption|refine (aC (by assumption)).trans ?_));done));exact rfl;exact rfl)|(apply stR pk;exact rfl;exact rfl;(focus ((repeat (first|exact aA _ _ _|assumption|refine (aC (by assumption)).trans ?_));done));exact rfl;exact rfl)|(intros;(try simp only [zql]);omega)))
end Go.Proofs.YtddmbnddgiebgaaGreatDoor.T
namespace Go.Proofs.YtddmbnddgiebgaaGreatDoor.T
open Go Go.Abs
attribute [local irreducible] Ev PWp
set_option maxRecDepth 10000
set_option maxHeartbeats 4000000
theorem uB (l m:List Pt) (hl:l.length<4611686018427387904):PF Tryz.prog 185 [.seq (l.map Pt.cells), .seq (m.map Pt.cells)] (PV.val (Value.bool (decide (l=m)))):=by
  refine aL aH Tryz.func185 (by kernel_rfl) rfl rfl rfl rfl (fun st=> ?_)
  (try (apply wO pk;exact rfl));(repeat' (first|(show All _;constructor)|(show Imp _ _;constructor)|(show ImpX _ _ _ _;constructor)|(apply wC pk;(iterate 2 exact rfl))|(apply wE pk;(iterate 2 exact rfl))|(apply wX pk;exact rfl)|(apply wN pk;exact rfl)|(apply wD pk [] [];kernel_rfl;exact rfl;exact rfl)|(apply aB;simp only [zqt,zqf])|(refine aD rfl (fun h=> ?_) (fun h=> ?_)<;>(try simp at h)<;>try (exfalso;omega))|(refine aF ?_;refine ⟨_,_,_,rfl,Wk.refl _,StSub.refl _, ?_,rfl⟩;try first|rfl|((rw [decide_eq_false (fun e:l=m=>by subst e;simp at*)]);done))|(intros;(try simp only [zql]);omega)))
  refine aO (X:={x:Nat//x≤l.length∧l.take x=m.take x}) (fun i=>((((St.nil 26 st).pv 0 (.seq (l.map Pt.cells))).pv 1 (.seq (m.map Pt.cells))).pv 5 ((PV.val (Value.int .i64 ((i.1:Nat))))))) (fun i=>l.length-i.1) ⟨0,by omega,rfl⟩ ?_ (fun i=> ?_)
  · ((repeat (first|refine Sub.pv ?_ rfl|refine Sub.var ?_ rfl rfl));exact Sub.nil _ _ _ (StSub.refl _) rfl)
  obtain ⟨i,hi,hinv⟩:=i
  dsimp only
  have hlm:l.length=m.length:=by omega
  (try (apply wO pk;exact rfl));(repeat' (first|(show All _;constructor)|(show Imp _ _;constructor)|(show ImpX _ _ _ _;constructor)|(apply wC pk;(iterate 2 exact rfl))|(apply wE pk;(iterate 2 exact rfl))|(apply wX pk;exact rfl)|(apply wN pk;exact rfl)|(apply wD pk [] [];kernel_rfl;exact rfl;exact rfl)|(apply aB;simp only [zqt,zqf])|(refine aD rfl (fun h=> ?_) (fun h=> ?_)<;>(try simp at h)<;>try (exfalso;omega))|(refine aF ?_;refine ⟨_,_,_,rfl,Wk.refl _,StSub.refl _, ?_,rfl⟩;try first|rfl|((first|(rw [wT (i:=i) (by omega) (by omega) (fun e=>by simp [e] at h)];done)|(rw [sU hinv (by omega) (by omega)]));done))|(apply aW pk;(iterate 6 exact rfl);rotate_left;exact rfl;(intro hw;exact rfl);(intro hw;apply aI<;>omega);(intro _;exact rfl);exact rfl)|(refine ⟨⟨i+1,by omega,pG hinv (by omega) (by omega) (by rw [Pt.ext_iff,Vl.ext_iff,Dt.ext_iff,Dt.ext_iff];simpa [and_assoc] using h)⟩, ?_,by simp only;omega⟩;((repeat (first|refine Sub.pv ?_ rfl|refine Sub.var ?_ rfl rfl));exact Sub.nil _ _ _ (StSub.refl _) rfl))|(intros;(try simp only [zql]);omega)))
theorem rright_spec (c:Cl) (hl:c.parts.length<1000000000000):PF Tryz.prog 147 [.agg c.cells] (PV.val (Value.int .i64 (rightP c))):=by
  have:=wQ c.parts
  have hc:(2000<((c.parts.length:Nat):Int))↔2000<c.parts.length:=by omega
  have hc2:(((c.parts.length:Nat):Int)≤2000)↔¬2000<c.parts.length:=by omega
  refine aL aH Tryz.func147 (by kernel_rfl) rfl rfl rfl rfl (fun st=> ?_)
  (try (apply wO pk;exact rfl));(repeat' (first|(show All _;constructor)|(show Imp _ _;constructor)|(show ImpX _ _ _ _;constructor)|(apply wC pk;(iterate 2 exact rfl))|(apply wE pk;(iterate 2 exact rfl))|(apply wX pk;exact rfl)|(apply wN pk;exact rfl)|(apply wD pk [] [];kernel_rfl;exact rfl;exact rfl)|(apply aB;simp only [zqt,zqf])|(refine aD rfl (fun h=> ?_) (fun h=> ?_)<;>(try simp at h)<;>try (exfalso;omega))|(refine aF ?_;refine ⟨_,_,_,rfl,Wk.refl _,StSub.refl _, ?_,rfl⟩;try first|rfl|((first|(simp only [rightP,Vl.ext_iff,Vl.zero,e0];grind)|(obtain ⟨⟨q1,q2,q3⟩,q4⟩:=‹(_∧_∧_)∧_›;have e1:c.val=Vl.zero:=(Vl.ext_iff _ _).2 ⟨q1,q2,q3⟩;simp only [rightP,e1,q4];grind));done))|(apply aN;(iterate 3 exact rfl);(intro _;(first|apply (mA c.parts hl)|apply (acJ c.parts hl)|apply (uB (dL c.parts) c.parts))<;>first|assumption|omega);rotate_left;(iterate 2 exact rfl))|(intros;(try simp only [zql]);omega)))
end Go.Proofs.YtddmbnddgiebgaaGreatDoor.T
