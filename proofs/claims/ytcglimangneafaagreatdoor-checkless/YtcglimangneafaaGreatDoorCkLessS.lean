import Derived.Test.YtcglimangneafaaGreatDoorCkKids
import Derived.Test.YtcglimangneafaaGreatDoorCkKeysS
import Derived.Test.YtcglimangneafaaGreatDoorAbsI
set_option linter.unusedSimpArgs false
set_option linter.unusedVariables false
namespace Go.Proofs.YtcglimangneafaaGreatDoor
open Go Go.Abs
attribute [local irreducible] Ev PWp
set_option maxRecDepth 10000
set_option maxHeartbeats 4000000
theorem avN (s:Sc):whyC s (lH s)=if rightC s=0 then 0 else 1:=by
  unfold whyC mayC
  by_cases h:rightC s=0
  · rw [if_pos h,aAc (iS h),decide_eq_true h,if_pos (by rfl)]
    refine mU.2 fun k hk=> ?_
    have e:bJ bB (lH s) (k:Int)=[]:=by unfold bJ;rw [akW];rfl
    rw [e]
    exact GoodT.nil
  · rw [if_neg h,decide_eq_false h,if_neg (by simp)]
theorem awQ (s:Sc) (hl:s.length<200000000000000):BsB (lH s):=⟨by unfold lH;rw [List.length_replicate];exact hl,fun d hd=>by
  rw [List.eq_of_mem_replicate hd]
  exact ⟨by simp,fun l hl=>by cases hl⟩⟩
theorem afE (s:Sc) (hs:ScG s) (hl:s.length<2000000000000):PF Tryz.prog 6 [.agg (scC s)] (PV.val (Value.bool (true))):=by
  have hA:=eR
  have hn:=arY s hl
  have hf:=iW s (lH s) hs.l hs.b hs.k (awQ s hs.l)
  have hS:=mF s hs.l hs.b
  cases g1:fewC s (lH s) with
  |false=>
    rw [g1] at hf
    generalize lH s=b at*
    refine aK aG Tryz.func6 (by kernel_rfl) rfl rfl rfl rfl (fun st=> ?_)
    (try (apply wO pk;exact rfl));(repeat' (first|(show All _;constructor)|(show Imp _ _;constructor)|(show ImpX _ _ _ _;constructor)|(apply wC pk;(iterate 2 exact rfl))|(apply wE pk;(iterate 2 exact rfl))|(apply wX pk;exact rfl)|(apply wN pk;exact rfl)|(apply wD pk [] [];kernel_rfl;exact rfl;exact rfl)|(apply aB;simp only [zqt,zqf])|(refine aC rfl (fun h=> ?_) (fun h=> ?_)<;>(try simp at h)<;>try (exfalso;omega))|(refine aD ?_;refine ⟨_,_,_,rfl,Wk.refl _,StSub.refl _, ?_,rfl⟩;try rfl)|(apply aL;(iterate 3 exact rfl);(intro _;(first|apply hA|apply hn|apply hf)<;>first|assumption|omega);rotate_left;(iterate 2 exact rfl))|(intros;(try simp only [zql]);omega)))
  |true=>
  rw [g1] at hf
  have hB:=CkB.of g1 hs.b hs.k
  have hr:=hB.right
  have hw:=gQ hB
  rw [avN] at hw
  have hrs:¬cC s=0→rightC s=cC s:=fun h=>by unfold rightC;rw [if_neg h]
  clear g1 hB
  generalize lH s=b at*
  generalize rightC s=R at*
  generalize cC s=S at*
  by_cases h1:R=0
  · rw [if_pos h1] at hw
    subst h1
    refine aK aG Tryz.func6 (by kernel_rfl) rfl rfl rfl rfl (fun st=> ?_)
    (try (apply wO pk;exact rfl));(repeat' (first|(show All _;constructor)|(show Imp _ _;constructor)|(show ImpX _ _ _ _;constructor)|(apply wC pk;(iterate 2 exact rfl))|(apply wE pk;(iterate 2 exact rfl))|(apply wX pk;exact rfl)|(apply wN pk;exact rfl)|(apply wD pk [] [];kernel_rfl;exact rfl;exact rfl)|(apply aB;simp only [zqt,zqf])|(refine aC rfl (fun h=> ?_) (fun h=> ?_)<;>(try simp at h)<;>try (exfalso;omega))|(refine aD ?_;refine ⟨_,_,_,rfl,Wk.refl _,StSub.refl _, ?_,rfl⟩;try first|rfl|((first|(simp;done)|(simp;grind)|grind);done))|(apply aL;(iterate 3 exact rfl);(intro _;(first|apply hA|apply hn|apply hf|apply hr|apply hw|apply hS)<;>first|assumption|omega);rotate_left;(iterate 2 exact rfl))|(intros;(try simp only [zql]);omega)))
  · rw [if_neg h1] at hw
    refine aK aG Tryz.func6 (by kernel_rfl) rfl rfl rfl rfl (fun st=> ?_)
    (try (apply wO pk;exact rfl));(repeat' (first|(show All _;constructor)|(show Imp _ _;constructor)|(show ImpX _ _ _ _;constructor)|(apply wC pk;(iterate 2 exact rfl))|(apply wE pk;(iterate 2 exact rfl))|(apply wX pk;exact rfl)|(apply wN pk;exact rfl)|(apply wD pk [] [];kernel_rfl;exact rfl;exact rfl)|(apply aB;simp only [zqt,zqf])|(refine aC rfl (fun h=> ?_) (fun h=> ?_)<;>(try simp at h)<;>try (exfalso;omega))|(refine aD ?_;refine ⟨_,_,_,rfl,Wk.refl _,StSub.refl _, ?_,rfl⟩;try first|rfl|((first|(simp [h1];done)|(simp [h1];grind)|grind);done))|(apply aL;(iterate 3 exact rfl);(intro _;(first|apply hA|apply hn|apply hf|apply hr|apply hw|apply hS)<;>first|assumption|omega);rotate_left;(iterate 2 exact rfl))|(intros;(try simp only [zql]);omega)))
theorem CkB.drop {s:Sc} {b:Bs} {n:Nat} (h:CkB n s b) (k key:Int):CkB n s (kG b k key):=⟨h.sb,h.len,h.col,h.chk,h.bs.drop k key,h.hn⟩
theorem iF (s:Sc) (b:Bs) (table key:Int) (hs:ScG s) (hb:BsB b):PF Tryz.prog 8 [.agg (scC s), .agg (bsC b),(PV.val (Value.int .i64 (table))),(PV.val (Value.int .i64 (key)))] (PV.val (Value.bool (true))):=by
  have hA:=eR
  have hf:=iW s b hs.l hs.b hs.k hb
  cases g1:fewC s b with
  |false=>
    rw [g1] at hf
    refine aK aG Tryz.func8 (by kernel_rfl) rfl rfl rfl rfl (fun st=> ?_)
    (try (apply wO pk;exact rfl));(repeat' (first|(show All _;constructor)|(show Imp _ _;constructor)|(show ImpX _ _ _ _;constructor)|(apply wC pk;(iterate 2 exact rfl))|(apply wE pk;(iterate 2 exact rfl))|(apply wX pk;exact rfl)|(apply wN pk;exact rfl)|(apply wD pk [] [];kernel_rfl;exact rfl;exact rfl)|(apply aB;simp only [zqt,zqf])|(refine aC rfl (fun h=> ?_) (fun h=> ?_)<;>(try simp at h)<;>try (exfalso;omega))|(refine aD ?_;refine ⟨_,_,_,rfl,Wk.refl _,StSub.refl _, ?_,rfl⟩;try rfl)|(apply aL;(iterate 3 exact rfl);(intro _;(first|apply hA|apply hf|apply (show PF Tryz.prog 13 [_,_] (PV.val (Value.int .i64 (0))) from by rename_i hh;simp [gw] at hh))<;>first|assumption|omega);rotate_left;(iterate 2 exact rfl))|(intros;(try simp only [zql]);omega)|((exfalso;simp [gw] at*;done))))
  |true=>
  rw [g1] at hf
  have hB:=CkB.of g1 hs.b hs.k
  have hw:=gQ hB
  by_cases g2:¬whyC s b=0
  · generalize whyC s b=W at*
    refine aK aG Tryz.func8 (by kernel_rfl) rfl rfl rfl rfl (fun st=> ?_)
    (try (apply wO pk;exact rfl));(repeat' (first|((exfalso;omega))|(show All _;constructor)|(show Imp _ _;constructor)|(show ImpX _ _ _ _;constructor)|(apply wC pk;(iterate 2 exact rfl))|(apply wE pk;(iterate 2 exact rfl))|(apply wX pk;exact rfl)|(apply wN pk;exact rfl)|(apply wD pk [] [];kernel_rfl;exact rfl;exact rfl)|(apply aB;simp only [zqt,zqf])|(refine aC rfl (fun h=> ?_) (fun h=> ?_)<;>(try simp at h)<;>try (exfalso;omega))|(refine aD ?_;refine ⟨_,_,_,rfl,Wk.refl _,StSub.refl _, ?_,rfl⟩;try rfl)|(apply aL;(iterate 3 exact rfl);(intro _;(first|apply hA|apply hf|apply hw)<;>first|assumption|omega);rotate_left;(iterate 2 exact rfl))|(intros;(try simp only [zql]);omega)))
  replace g2:=Decidable.of_not_not g2
  rw [g2] at hw
  obtain ⟨hrc,hg,hk⟩:=rJ g2
  have hrs:=iS hrc
  obtain ⟨⟨_,hbl⟩,_⟩:=cA.1 hg
  have hsl:=hB.len
  have hkids:=akN s table (amO hrs) fun k hk=>pC hrs hk
  obtain ⟨l1,l2⟩:=hB.bs.l (by omega)
  have hdr:=akL b table key l1 l2
  have hwd:=gQ (hB.drop table key)
  have hless:(∀k<s.length,∀f∈s[k]!.foreign,f.table=table→∀r∈bJ bB b k,¬(r[f.col.toNat]!.kind=1∧r[f.col.toNat]!.n=key))→whyC s (kG b table key)=0:=fun h=>by
    unfold whyC mayC
    rw [amM hg,decide_eq_true hrc,if_pos (by rfl)]
    exact asR hg hk h
  have hmem:∀x∈nJ s table,x.1<s.length∧x.2<s[x.1]!.foreign.length:=fun x hx=>by
    obtain ⟨a1,a2,_⟩:=xC.1 hx
    exact ⟨a1,a2⟩
  have hfin:(∀x∈nJ s table,∀r∈bJ bB b (x.1:Nat),¬(r[s[x.1]!.foreign[x.2]!.col.toNat]!.kind=1∧r[s[x.1]!.foreign[x.2]!.col.toNat]!.n=key))→whyC s (kG b table key)=0:=fun h=>hless fun k hk f hf ht r hr=>by
    obtain ⟨i,hi,rfl⟩:=List.getElem_of_mem hf
    have:=h (k,i) (xC.2 ⟨hk,hi,by rw [getElem!_pos s[k]!.foreign i hi];exact ht⟩) r hr
    rwa [getElem!_pos s[k]!.foreign i hi] at this
  clear hless
  generalize whyC s (kG b table key)=W at*
  have hkl:(nJ s table).length≤1000:=by
    have:=uN s table (fun k hk=>pC hrs hk) s.length (by omega)
    have e:mC s table s.length=nJ s table:=rfl
    rw [e] at this
    omega
  generalize nJ s table=K at*
  refine aK aG Tryz.func8 (by kernel_rfl) rfl rfl rfl rfl (fun st=> ?_)
  focus ((try (apply wO pk;exact rfl));(repeat' (first|(show All _;constructor)|(show Imp _ _;constructor)|(show ImpX _ _ _ _;constructor)|(apply wC pk;(iterate 2 exact rfl))|(apply wE pk;(iterate 2 exact rfl))|(apply wX pk;exact rfl)|(apply wN pk;exact rfl)|(apply wD pk [] [];kernel_rfl;exact rfl;exact rfl)|(apply aB;simp only [zqt,zqf])|(refine aC rfl (fun h=> ?_) (fun h=> ?_)<;>(try simp at h)<;>try (exfalso;omega))|(refine aD ?_;refine ⟨_,_,_,rfl,Wk.refl _,StSub.refl _, ?_,rfl⟩;try rfl)|(apply aL;(iterate 3 exact rfl);(intro _;(first|apply hA|apply hf|apply hw|apply hkids)<;>first|assumption|omega);rotate_left;(iterate 2 exact rfl))|(intros;(try simp only [zql]);omega))))
  refine aP (X:={x:Nat//x≤K.length∧∀j (h:j<K.length),j<x→∀r∈bJ bB b (K[j].1:Nat),¬(r[s[K[j].1]!.foreign[K[j].2]!.col.toNat]!.kind=1∧r[s[K[j].1]!.foreign[K[j].2]!.col.toNat]!.n=key)}) (fun i=>((((((((St.nil 138 st).pv 2 ((PV.val (Value.int .i64 (table))))).pv 3 ((PV.val (Value.int .i64 (key))))).var 4 24 ((scC s))).var 5 27 ((bsC b))).pv 9 ((PV.val (Value.bool (true))))).pv 10 (.seq (K.map kkC))).pv 11 ((PV.val (Value.int .i64 ((i.1:Nat))))))) (fun i=>K.length-i.1) ⟨0,by omega,by omega⟩ ?_ (fun i=> ?_)
  · ((repeat (first|refine Sub.pv ?_ rfl|refine Sub.var ?_ rfl rfl));exact Sub.nil _ _ _ (StSub.refl _) rfl)
  obtain ⟨i,hi,hI⟩:=i
  dsimp only
  have hKm:(K.map kkC).length=K.length:=zql _
  by_cases hend:K.length≤i
  · have e:W=0:=hfin fun x hx=>by
      obtain ⟨j,hj,rfl⟩:=List.getElem_of_mem hx
      exact hI j hj (by omega)
    rw [e] at hwd
    (try (apply wO pk;exact rfl));(repeat' (first|(show All _;constructor)|(show Imp _ _;constructor)|(show ImpX _ _ _ _;constructor)|(apply wC pk;(iterate 2 exact rfl))|(apply wE pk;(iterate 2 exact rfl))|(apply wX pk;exact rfl)|(apply wN pk;exact rfl)|(apply wD pk [] [];kernel_rfl;exact rfl;exact rfl)|(apply aB;simp only [zqt,zqf])|(refine aC rfl (fun h=> ?_) (fun h=> ?_)<;>(try simp at h)<;>try (exfalso;omega))|(refine aD ?_;refine ⟨_,_,_,rfl,Wk.refl _,StSub.refl _, ?_,rfl⟩;try rfl)|(apply aL;(iterate 3 exact rfl);(intro _;(first|apply hdr|apply hwd)<;>first|assumption|omega);rotate_left;(iterate 2 exact rfl))|(intros;(try simp only [zql]);omega)))
  have hil:i<K.length:=by omega
  obtain ⟨a1,a2⟩:=hmem _ (List.getElem_mem hil)
  have hrow:(K.map kkC)[i]?=some [(PV.val (Value.int .i64 ((K[i].1:Nat)))),(PV.val (Value.int .i64 ((K[i].2:Nat))))]:=by rw [List.getElem?_map,List.getElem?_eq_getElem hil];rfl
  have hup:(∀r∈bJ bB b (K[i].1:Nat),¬(r[s[K[i].1]!.foreign[K[i].2]!.col.toNat]!.kind=1∧r[s[K[i].1]!.foreign[K[i].2]!.col.toNat]!.n=key))→∀j (h:j<K.length),j<i+1→∀r∈bJ bB b (K[j].1:Nat),¬(r[s[K[j].1]!.foreign[K[j].2]!.col.toNat]!.kind=1∧r[s[K[j].1]!.foreign[K[j].2]!.col.toNat]!.n=key):=fun h j hj hji=>by
    rcases Nat.lt_succ_iff_lt_or_eq.1 hji with q|q
    · exact hI j hj q
    · subst q;exact h
  generalize K[i]=x at*
  obtain ⟨k,f⟩:=x
  dsimp only at a1 a2 hrow hup
  rw [getElem!_pos s k a1] at a2 hup
  rw [getElem!_pos s[k].foreign f a2] at hup
  have hfr:=aqH hrs a1 (List.getElem_mem a2)
  have hro:=fun r (hr:r∈bJ bB b (k:Nat))=>rO afJ hg a1 hr
  have hrl:=rows_len hg a1
  have hsh:=jK hB (k:=k) (by omega)
  have hfl:=pC hrs a1
  generalize bJ bB b (k:Nat)=rows at*
  have f1:=hfr.c1
  have f2:=hfr.c2
  have hmr:(rows.map roC).length=rows.length:=zql _
  focus ((try (apply wO pk;exact rfl));(repeat' (first|(show All _;constructor)|(show Imp _ _;constructor)|(show ImpX _ _ _ _;constructor)|(apply wC pk;(iterate 2 exact rfl))|(apply wE pk;(iterate 2 exact rfl))|(apply wX pk;exact rfl)|(apply wN pk;exact rfl)|(apply wD pk [] [];kernel_rfl;exact rfl;exact rfl)|(apply aB;simp only [zqt,zqf])|(refine aC rfl (fun h=> ?_) (fun h=> ?_)<;>(try simp at h)<;>try (exfalso;omega))|(refine aD ?_;refine ⟨_,_,_,rfl,Wk.refl _,StSub.refl _, ?_,rfl⟩;try rfl)|(apply aL;(iterate 3 exact rfl);(intro _;apply hsh<;>first|assumption|omega);rotate_left;(iterate 2 exact rfl))|(apply bC pk;(iterate 6 exact rfl);rotate_left;exact rfl;(first|((intro hw;exact rfl);(intro hw;apply hrow<;>omega);(intro _;exact rfl))|((intro hw;exact rfl);(intro hw;apply aM<;>omega);(intro _;exact rfl)));exact rfl)|((apply awE pk (j:=0);(iterate 5 exact rfl);rotate_left;exact rfl;(intro _;rfl);(intro _;decide);(intro _;rfl);exact rfl))|((apply awE pk (j:=1);(iterate 5 exact rfl);rotate_left;exact rfl;(intro _;rfl);(intro _;decide);(intro _;rfl);exact rfl))|(intros;(try simp only [zql]);omega)|((exfalso;simp [gw] at*;omega)))))
  refine aP (X:={x:Nat//x≤rows.length∧∀j (h:j<rows.length),j<x→¬(rows[j][s[k].foreign[f].col.toNat]!.kind=1∧rows[j][s[k].foreign[f].col.toNat]!.n=key)}) (fun y=>(((((((((((St.nil 138 st).pv 2 ((PV.val (Value.int .i64 (table))))).pv 3 ((PV.val (Value.int .i64 (key))))).var 4 24 ((scC s))).var 5 27 ((bsC b))).pv 9 ((PV.val (Value.bool (true))))).pv 10 (.seq (K.map kkC))).pv 11 ((PV.val (Value.int .i64 ((i:Nat)))))).pv 13 ((PV.val (Value.int .i64 (s[k].foreign[f].col))))).pv 14 (.seq (rows.map roC))).pv 15 ((PV.val (Value.int .i64 ((y.1:Nat))))))) (fun y=>rows.length-y.1) ⟨0,by omega,by omega⟩ ?_ (fun y=> ?_)
  · ((repeat (first|refine Sub.pv ?_ rfl|refine Sub.var ?_ rfl rfl));exact Sub.nil _ _ _ (StSub.refl _) rfl)
  obtain ⟨y,hy,hyI⟩:=y
  dsimp only
  by_cases hend2:rows.length≤y
  · have hw2:=hup fun r hr=>by
      obtain ⟨j,hj,rfl⟩:=List.getElem_of_mem hr
      exact hyI j hj (by omega)
    (try (apply wO pk;exact rfl));(repeat' (first|(show All _;constructor)|(show Imp _ _;constructor)|(show ImpX _ _ _ _;constructor)|(apply wC pk;(iterate 2 exact rfl))|(apply wE pk;(iterate 2 exact rfl))|(apply wX pk;exact rfl)|(apply wN pk;exact rfl)|(apply wD pk [] [];kernel_rfl;exact rfl;exact rfl)|(apply aB;simp only [zqt,zqf])|(refine aC rfl (fun h=> ?_) (fun h=> ?_)<;>(try simp at h)<;>try (exfalso;omega))|(refine aD ?_;refine ⟨_,_,_,rfl,Wk.refl _,StSub.refl _, ?_,rfl⟩;try rfl)|(refine ⟨⟨i+1,by omega,hw2⟩, ?_,by simp only;omega⟩;((repeat (first|refine Sub.pv ?_ rfl|refine Sub.var ?_ rfl rfl));exact Sub.nil _ _ _ (StSub.refl _) rfl))|(intros;(try simp only [zql]);omega)))
  have hyl:y<rows.length:=by omega
  have hylen:=(hro _ (List.getElem_mem hyl)).len
  have hyv:(rows[y].map Vl.cells).length=rows[y].length:=zql _
  have hci:s[k].foreign[f].col=((s[k].foreign[f].col.toNat:Nat):Int):=by omega
  have hlt:s[k].foreign[f].col.toNat<rows[y].length:=by omega
  have hyu:¬(rows[y][s[k].foreign[f].col.toNat]!.kind=1∧rows[y][s[k].foreign[f].col.toNat]!.n=key)→∀j (h:j<rows.length),j<y+1→¬(rows[j][s[k].foreign[f].col.toNat]!.kind=1∧rows[j][s[k].foreign[f].col.toNat]!.n=key):=fun h j hj hji=>by
    rcases Nat.lt_succ_iff_lt_or_eq.1 hji with q|q
    · exact hyI j hj q
    · subst q;exact h
  rw [getElem!_pos rows[y] _ hlt] at hyu
  by_cases hc:rows[y][s[k].foreign[f].col.toNat].kind=1∧rows[y][s[k].foreign[f].col.toNat].n=key
  · obtain ⟨c1,c2⟩:=hc
    (try (apply wO pk;exact rfl));(repeat' (first|(show All _;constructor)|(show Imp _ _;constructor)|(show ImpX _ _ _ _;constructor)|(apply wC pk;(iterate 2 exact rfl))|(apply wE pk;(iterate 2 exact rfl))|(apply wX pk;exact rfl)|(apply wN pk;exact rfl)|(apply wD pk [] [];kernel_rfl;exact rfl;exact rfl)|(apply aB;simp only [zqt,zqf])|(refine aC rfl (fun h=> ?_) (fun h=> ?_)<;>(try simp at h)<;>try (exfalso;omega))|(refine aD ?_;refine ⟨_,_,_,rfl,Wk.refl _,StSub.refl _, ?_,rfl⟩;try rfl)|(apply bC pk;(iterate 6 exact rfl);rotate_left;exact rfl;(first|((intro hw;exact rfl);(intro hw;apply aM<;>omega);(intro _;exact rfl))|((intro hw;exact hci);(intro hw;apply aM<;>omega);(intro _;exact rfl)));exact rfl)|(intros;(try simp only [zql]);omega)|((exfalso;simp [gw] at*;omega))))
  · have hw2:=hyu hc
    (try (apply wO pk;exact rfl));(repeat' (first|(show All _;constructor)|(show Imp _ _;constructor)|(show ImpX _ _ _ _;constructor)|(apply wC pk;(iterate 2 exact rfl))|(apply wE pk;(iterate 2 exact rfl))|(apply wX pk;exact rfl)|(apply wN pk;exact rfl)|(apply wD pk [] [];kernel_rfl;exact rfl;exact rfl)|(apply aB;simp only [zqt,zqf])|(refine aC rfl (fun h=> ?_) (fun h=> ?_)<;>(try simp at h)<;>try (exfalso;omega))|(refine aD ?_;refine ⟨_,_,_,rfl,Wk.refl _,StSub.refl _, ?_,rfl⟩;try rfl)|(apply bC pk;(iterate 6 exact rfl);rotate_left;exact rfl;(first|((intro hw;exact rfl);(intro hw;apply aM<;>omega);(intro _;exact rfl))|((intro hw;exact hci);(intro hw;apply aM<;>omega);(intro _;exact rfl)));exact rfl)|(refine ⟨⟨y+1,by omega,hw2⟩, ?_,by simp only;omega⟩;((repeat (first|refine Sub.pv ?_ rfl|refine Sub.var ?_ rfl rfl));exact Sub.nil _ _ _ (StSub.refl _) rfl))|(intros;(try simp only [zql]);omega)|((exfalso;first|exact hc h|(simp [gw] at*;omega)))))
end Go.Proofs.YtcglimangneafaaGreatDoor
