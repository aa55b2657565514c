import Derived.Test.YtcglimangneafaaGreatDoorCkAwake
set_option linter.unusedSimpArgs false
set_option linter.unusedVariables false
namespace Go.Proofs.YtcglimangneafaaGreatDoor
open Go Go.Abs
attribute [local irreducible] Ev PWp
set_option maxRecDepth 10000
set_option maxHeartbeats 4000000
structure ScG (s:Sc):Prop where
  l:s.length<200000000000000
  b:ScB s
  k:∀t∈s,pS t
theorem rJ {s:Sc} {b:Bs} (h:whyC s b=0):rightC s=0∧cY T.rightP s b=true∧ckW bB exR s b=0:=by
  unfold whyC at h
  split at h
  · rename_i q
    unfold mayC at q
    rw [Bool.and_eq_true,decide_eq_true_eq] at q
    exact ⟨q.1,q.2,h⟩
  · cases h
theorem alF {s:Sc} {b:Bs} (hg:cY T.rightP s b=true) {k:Nat} (hk:k<s.length) {x y:Nat} (hxy:x<y) (hx:x<(bJ bB b k).length) (hy:y<(bJ bB b k).length):(bJ bB b k)[x][0]!.n<(bJ bB b k)[y][0]!.n:=by
  have hl:(bJ bB b k).length=(aR b k).length:=zql _
  have:=auJ afJ hg hk hxy (by omega)
  have e1:(bJ bB b k)[x]=fT bB ((aR b k)[x]'(by omega)):=List.getElem_map ..
  have e2:(bJ bB b k)[y]=fT bB ((aR b k)[y]'(by omega)):=List.getElem_map ..
  rw [e1,e2];exact this
theorem alQ (s:Sc) (b:Bs) (hs:ScG s) (hb:BsB b):PF Tryz.prog 4 [.agg (scC s), .agg (bsC b)] (PV.val (Value.bool (true))):=by
  have hA:=eR
  have hf:=iW s b hs.l hs.b hs.k hb
  cases g1:fewC s b with
  |false=>
    rw [g1] at hf
    refine aK aG Tryz.func4 (by kernel_rfl) rfl rfl rfl rfl (fun st=> ?_)
    (try (apply wO pk;exact rfl));(repeat' (first|(show All _;constructor)|(show Imp _ _;constructor)|(show ImpX _ _ _ _;constructor)|(apply wC pk;(iterate 2 exact rfl))|(apply wE pk;(iterate 2 exact rfl))|(apply wX pk;exact rfl)|(apply wN pk;exact rfl)|(apply wD pk [] [];kernel_rfl;exact rfl;exact rfl)|(apply aB;simp only [zqt,zqf])|(refine aC rfl (fun h=> ?_) (fun h=> ?_)<;>(try simp at h)<;>try (exfalso;omega))|(refine aD ?_;refine ⟨_,_,_,rfl,Wk.refl _,StSub.refl _, ?_,rfl⟩;try rfl)|(apply aL;(iterate 3 exact rfl);(intro _;(first|apply hA|apply hf|apply (show PF Tryz.prog 13 [_,_] (PV.val (Value.int .i64 (0))) from by rename_i hh;simp [gw] at hh))<;>first|assumption|omega);rotate_left;(iterate 2 exact rfl))|(intros;(try simp only [zql]);omega)|((exfalso;simp [gw] at*;done))))
  |true=>
  rw [g1] at hf
  have hB:=CkB.of g1 hs.b hs.k
  have hw:=gQ hB
  by_cases g2:¬whyC s b=0
  · generalize whyC s b=W at*
    refine aK aG Tryz.func4 (by kernel_rfl) rfl rfl rfl rfl (fun st=> ?_)
    (try (apply wO pk;exact rfl));(repeat' (first|((exfalso;omega))|(show All _;constructor)|(show Imp _ _;constructor)|(show ImpX _ _ _ _;constructor)|(apply wC pk;(iterate 2 exact rfl))|(apply wE pk;(iterate 2 exact rfl))|(apply wX pk;exact rfl)|(apply wN pk;exact rfl)|(apply wD pk [] [];kernel_rfl;exact rfl;exact rfl)|(apply aB;simp only [zqt,zqf])|(refine aC rfl (fun h=> ?_) (fun h=> ?_)<;>(try simp at h)<;>try (exfalso;omega))|(refine aD ?_;refine ⟨_,_,_,rfl,Wk.refl _,StSub.refl _, ?_,rfl⟩;try rfl)|(apply aL;(iterate 3 exact rfl);(intro _;(first|apply hA|apply hf|apply hw)<;>first|assumption|omega);rotate_left;(iterate 2 exact rfl))|(intros;(try simp only [zql]);omega)))
  replace g2:=Decidable.of_not_not g2
  rw [g2] at hw
  obtain ⟨hrc,hg,hk⟩:=rJ g2
  have hrs:=iS hrc
  have hgood:=mU.1 hk
  obtain ⟨⟨_,hbl⟩,_⟩:=cA.1 hg
  have hsl:=hB.len
  refine aK aG Tryz.func4 (by kernel_rfl) rfl rfl rfl rfl (fun st=> ?_)
  focus ((try (apply wO pk;exact rfl));(repeat' (first|(show All _;constructor)|(show Imp _ _;constructor)|(show ImpX _ _ _ _;constructor)|(apply wC pk;(iterate 2 exact rfl))|(apply wE pk;(iterate 2 exact rfl))|(apply wX pk;exact rfl)|(apply wN pk;exact rfl)|(apply wD pk [] [];kernel_rfl;exact rfl;exact rfl)|(apply aB;simp only [zqt,zqf])|(refine aC rfl (fun h=> ?_) (fun h=> ?_)<;>(try simp at h)<;>try (exfalso;omega))|(refine aD ?_;refine ⟨_,_,_,rfl,Wk.refl _,StSub.refl _, ?_,rfl⟩;try rfl)|(apply aL;(iterate 3 exact rfl);(intro _;(first|apply hA|apply hf|apply hw)<;>first|assumption|omega);rotate_left;(iterate 2 exact rfl))|(intros;(try simp only [zql]);omega))))
  refine aP (X:={x:Nat//x≤s.length}) (fun i=>(((((St.nil 157 st).var 2 24 ((scC s))).var 3 27 ((bsC b))).pv 5 ((PV.val (Value.bool (true))))).pv 6 ((PV.val (Value.int .i64 ((i.1:Nat))))))) (fun i=>s.length-i.1) ⟨0,by omega⟩ ?_ (fun i=> ?_)
  · ((repeat (first|refine Sub.pv ?_ rfl|refine Sub.var ?_ rfl rfl));exact Sub.nil _ _ _ (StSub.refl _) rfl)
  obtain ⟨i,hi⟩:=i
  dsimp only
  by_cases hend:s.length≤i
  · (try (apply wO pk;exact rfl));(repeat' (first|(show All _;constructor)|(show Imp _ _;constructor)|(show ImpX _ _ _ _;constructor)|(apply wC pk;(iterate 2 exact rfl))|(apply wE pk;(iterate 2 exact rfl))|(apply wX pk;exact rfl)|(apply wN pk;exact rfl)|(apply wD pk [] [];kernel_rfl;exact rfl;exact rfl)|(apply aB;simp only [zqt,zqf])|(refine aC rfl (fun h=> ?_) (fun h=> ?_)<;>(try simp at h)<;>try (exfalso;omega))|(refine aD ?_;refine ⟨_,_,_,rfl,Wk.refl _,StSub.refl _, ?_,rfl⟩;try rfl)|(intros;(try simp only [zql]);omega)))
  have hil:i<s.length:=by omega
  have hib:i<b.length:=by omega
  have hsh:=jK hB hib
  have hG:=hgood i hil
  rw [getElem!_pos s i hil] at hG
  obtain ⟨n1,n2,n3,n4,n5⟩:=zH hrs hil
  have hrl:=rows_len hg hil
  have hro:=fun r (hr:r∈bJ bB b i)=>rO afJ hg hil hr
  have hun:=fun u (hu:u∈s[i].unique)=>avR hrs hil hu
  have hfr:=fun f (hf:f∈s[i].foreign)=>aqH hrs hil hf
  have hc1:=(ayA hrs hil).2
  have hrise:=fun x y hxy hx hy=>alF hg hil (x:=x) (y:=y) hxy hx hy
  generalize bJ bB b i=rows at*
  focus ((try (apply wO pk;exact rfl));(repeat' (first|(show All _;constructor)|(show Imp _ _;constructor)|(show ImpX _ _ _ _;constructor)|(apply wC pk;(iterate 2 exact rfl))|(apply wE pk;(iterate 2 exact rfl))|(apply wX pk;exact rfl)|(apply wN pk;exact rfl)|(apply wD pk [] [];kernel_rfl;exact rfl;exact rfl)|(apply aB;simp only [zqt,zqf])|(refine aC rfl (fun h=> ?_) (fun h=> ?_)<;>(try simp at h)<;>try (exfalso;omega))|(refine aD ?_;refine ⟨_,_,_,rfl,Wk.refl _,StSub.refl _, ?_,rfl⟩;try rfl)|(apply aL;(iterate 3 exact rfl);(intro _;apply hsh<;>first|assumption|omega);rotate_left;(iterate 2 exact rfl))|(apply bC pk;(iterate 6 exact rfl);rotate_left;exact rfl;(intro hw;exact rfl);(intro hw;apply aM<;>omega);(intro _;exact rfl);exact rfl)|(intros;(try simp only [zql]);omega))))
  refine aP (X:={x:Nat//x≤rows.length}) (fun y=>((((((((St.nil 157 st).var 2 24 ((scC s))).var 3 27 ((bsC b))).pv 5 ((PV.val (Value.bool (true))))).pv 6 ((PV.val (Value.int .i64 ((i:Nat)))))).pv 7 (.seq (rows.map roC))).var 8 43 (s[i].cells)).pv 9 ((PV.val (Value.int .i64 ((y.1:Nat))))))) (fun y=>rows.length-y.1) ⟨0,by omega⟩ ?_ (fun y=> ?_)
  · ((repeat (first|refine Sub.pv ?_ rfl|refine Sub.var ?_ rfl rfl));exact Sub.nil _ _ _ (StSub.refl _) rfl)
  obtain ⟨y,hy⟩:=y
  dsimp only
  have hmr:(rows.map roC).length=rows.length:=zql _
  by_cases hend2:rows.length≤y
  · (try (apply wO pk;exact rfl));(repeat' (first|(show All _;constructor)|(show Imp _ _;constructor)|(show ImpX _ _ _ _;constructor)|(apply wC pk;(iterate 2 exact rfl))|(apply wE pk;(iterate 2 exact rfl))|(apply wX pk;exact rfl)|(apply wN pk;exact rfl)|(apply wD pk [] [];kernel_rfl;exact rfl;exact rfl)|(apply aB;simp only [zqt,zqf])|(refine aC rfl (fun h=> ?_) (fun h=> ?_)<;>(try simp at h)<;>try (exfalso;omega))|(refine aD ?_;refine ⟨_,_,_,rfl,Wk.refl _,StSub.refl _, ?_,rfl⟩;try rfl)|(refine ⟨⟨i+1,by omega⟩, ?_,by simp only;omega⟩;((repeat (first|refine Sub.pv ?_ rfl|refine Sub.var ?_ rfl rfl));exact Sub.nil _ _ _ (StSub.refl _) rfl))|(intros;(try simp only [zql]);omega)))
  have hyl:y<rows.length:=by omega
  have hylen:=(hro _ (List.getElem_mem hyl)).len
  have hyv:(rows[y].map Vl.cells).length=rows[y].length:=zql _
  have hcc:(s[i].cols.map Co.cells).length=s[i].cols.length:=zql _
  focus ((try (apply wO pk;exact rfl));(repeat' (first|(show All _;constructor)|(show Imp _ _;constructor)|(show ImpX _ _ _ _;constructor)|(apply wC pk;(iterate 2 exact rfl))|(apply wE pk;(iterate 2 exact rfl))|(apply wX pk;exact rfl)|(apply wN pk;exact rfl)|(apply wD pk [] [];kernel_rfl;exact rfl;exact rfl)|(apply aB;simp only [zqt,zqf])|(refine aC rfl (fun h=> ?_) (fun h=> ?_)<;>(try simp at h)<;>try (exfalso;omega))|(refine aD ?_;refine ⟨_,_,_,rfl,Wk.refl _,StSub.refl _, ?_,rfl⟩;try rfl)|(apply bC pk;(iterate 6 exact rfl);rotate_left;exact rfl;(intro hw;exact rfl);(intro hw;apply aM<;>omega);(intro _;exact rfl);exact rfl)|(intros;(try simp only [zql]);omega)|((exfalso;simp at*;omega)))))
  refine aP (X:={x:Nat//x≤y}) (fun z=>(((((((((St.nil 157 st).var 2 24 ((scC s))).var 3 27 ((bsC b))).pv 5 ((PV.val (Value.bool (true))))).pv 6 ((PV.val (Value.int .i64 ((i:Nat)))))).pv 7 (.seq (rows.map roC))).var 8 43 (s[i].cells)).pv 9 ((PV.val (Value.int .i64 ((y:Nat)))))).pv 10 ((PV.val (Value.int .i64 ((z.1:Nat))))))) (fun z=>y-z.1) ⟨0,by omega⟩ ?_ (fun z=> ?_)
  · ((repeat (first|refine Sub.pv ?_ rfl|refine Sub.var ?_ rfl rfl));exact Sub.nil _ _ _ (StSub.refl _) rfl)
  · obtain ⟨z,hz⟩:=z
    dsimp only
    by_cases hend3:y≤z
    · focus ((try (apply wO pk;exact rfl));(repeat' (first|(show All _;constructor)|(show Imp _ _;constructor)|(show ImpX _ _ _ _;constructor)|(apply wC pk;(iterate 2 exact rfl))|(apply wE pk;(iterate 2 exact rfl))|(apply wX pk;exact rfl)|(apply wN pk;exact rfl)|(apply wD pk [] [];kernel_rfl;exact rfl;exact rfl)|(apply aB;simp only [zqt,zqf])|(refine aC rfl (fun h=> ?_) (fun h=> ?_)<;>(try simp at h)<;>try (exfalso;omega))|(refine aD ?_;refine ⟨_,_,_,rfl,Wk.refl _,StSub.refl _, ?_,rfl⟩;try rfl)|(intros;(try simp only [zql]);omega)|((exfalso;omega)))))
      refine aP (X:={x:Nat//x≤s[i].foreign.length}) (fun w=>(((((((((St.nil 157 st).var 2 24 ((scC s))).var 3 27 ((bsC b))).pv 5 ((PV.val (Value.bool (true))))).pv 6 ((PV.val (Value.int .i64 ((i:Nat)))))).pv 7 (.seq (rows.map roC))).var 8 43 (s[i].cells)).pv 9 ((PV.val (Value.int .i64 ((y:Nat)))))).pv 13 ((PV.val (Value.int .i64 ((w.1:Nat))))))) (fun w=>s[i].foreign.length-w.1) ⟨0,by omega⟩ ?_ (fun w=> ?_)
      · ((repeat (first|refine Sub.pv ?_ rfl|refine Sub.var ?_ rfl rfl));exact Sub.nil _ _ _ (StSub.refl _) rfl)
      obtain ⟨w,hw'⟩:=w
      dsimp only
      by_cases hend4:s[i].foreign.length≤w
      · (try (apply wO pk;exact rfl));(repeat' (first|(show All _;constructor)|(show Imp _ _;constructor)|(show ImpX _ _ _ _;constructor)|(apply wC pk;(iterate 2 exact rfl))|(apply wE pk;(iterate 2 exact rfl))|(apply wX pk;exact rfl)|(apply wN pk;exact rfl)|(apply wD pk [] [];kernel_rfl;exact rfl;exact rfl)|(apply aB;simp only [zqt,zqf])|(refine aC rfl (fun h=> ?_) (fun h=> ?_)<;>(try simp at h)<;>try (exfalso;omega))|(refine aD ?_;refine ⟨_,_,_,rfl,Wk.refl _,StSub.refl _, ?_,rfl⟩;try rfl)|(refine ⟨⟨y+1,by omega⟩, ?_,by simp only;omega⟩;((repeat (first|refine Sub.pv ?_ rfl|refine Sub.var ?_ rfl rfl));exact Sub.nil _ _ _ (StSub.refl _) rfl))|(intros;(try simp only [zql]);omega)))
      have hwl:w<s[i].foreign.length:=by omega
      have hF:=hfr _ (List.getElem_mem hwl)
      have f1:=hF.c1
      have f2:=hF.c2
      have hci:s[i].foreign[w].col=((s[i].foreign[w].col.toNat:Nat):Int):=by omega
      have hlt:s[i].foreign[w].col.toNat<rows[y].length:=by omega
      have hfg:=hG.frn _ (List.getElem_mem hwl) _ (List.getElem_mem hyl)
      rw [getElem!_pos rows[y] _ hlt] at hfg
      have hGt:=rT hB.bs hB.hn s[i].foreign[w].table rows[y][s[i].foreign[w].col.toNat].n
      generalize (dQ (aR b s[i].foreign[w].table) rows[y][s[i].foreign[w].col.toNat].n).isSome=I at*
      cases I with
      |true=>
        (try (apply wO pk;exact rfl));(repeat' (first|(show All _;constructor)|(show Imp _ _;constructor)|(show ImpX _ _ _ _;constructor)|(apply wC pk;(iterate 2 exact rfl))|(apply wE pk;(iterate 2 exact rfl))|(apply wX pk;exact rfl)|(apply wN pk;exact rfl)|(apply wD pk [] [];kernel_rfl;exact rfl;exact rfl)|(apply aB;simp only [zqt,zqf])|(refine aC rfl (fun h=> ?_) (fun h=> ?_)<;>(try simp at h)<;>try (exfalso;omega))|(refine aD ?_;refine ⟨_,_,_,rfl,Wk.refl _,StSub.refl _, ?_,rfl⟩;try rfl)|(apply aL;(iterate 3 exact rfl);(intro _;apply hGt<;>first|assumption|omega);rotate_left;(iterate 2 exact rfl))|(apply bC pk;(iterate 6 exact rfl);rotate_left;exact rfl;(first|((intro hw;exact rfl);(intro hw;apply aM<;>omega);(intro _;exact rfl))|((intro hw;exact hci);(intro hw;apply aM<;>omega);(intro _;exact rfl)));exact rfl)|(refine ⟨⟨w+1,by omega⟩, ?_,by simp only;omega⟩;((repeat (first|refine Sub.pv ?_ rfl|refine Sub.var ?_ rfl rfl));exact Sub.nil _ _ _ (StSub.refl _) rfl))|(intros;(try simp only [zql]);omega)))
      |false=>
        have hno:¬rows[y][s[i].foreign[w].col.toNat].kind=1:=fun q=>by have:=hfg q;cases this
        (try (apply wO pk;exact rfl));(repeat' (first|(show All _;constructor)|(show Imp _ _;constructor)|(show ImpX _ _ _ _;constructor)|(apply wC pk;(iterate 2 exact rfl))|(apply wE pk;(iterate 2 exact rfl))|(apply wX pk;exact rfl)|(apply wN pk;exact rfl)|(apply wD pk [] [];kernel_rfl;exact rfl;exact rfl)|(apply aB;simp only [zqt,zqf])|(refine aC rfl (fun h=> ?_) (fun h=> ?_)<;>(try simp at h)<;>try (exfalso;omega))|(refine aD ?_;refine ⟨_,_,_,rfl,Wk.refl _,StSub.refl _, ?_,rfl⟩;try rfl)|(apply aL;(iterate 3 exact rfl);(intro _;apply hGt<;>first|assumption|omega);rotate_left;(iterate 2 exact rfl))|(apply bC pk;(iterate 6 exact rfl);rotate_left;exact rfl;(first|((intro hw;exact rfl);(intro hw;apply aM<;>omega);(intro _;exact rfl))|((intro hw;exact hci);(intro hw;apply aM<;>omega);(intro _;exact rfl)));exact rfl)|(refine ⟨⟨w+1,by omega⟩, ?_,by simp only;omega⟩;((repeat (first|refine Sub.pv ?_ rfl|refine Sub.var ?_ rfl rfl));exact Sub.nil _ _ _ (StSub.refl _) rfl))|(intros;(try simp only [zql]);omega)))
    have hzy:z<y:=by omega
    have hzl:z<rows.length:=by omega
    have hzlen:=(hro _ (List.getElem_mem hzl)).len
    have hri:=hrise z y hzy hzl hyl
    rw [getElem!_pos rows[z] 0 (by omega),getElem!_pos rows[y] 0 (by omega)] at hri
    have h0z:0<rows[z].length:=by omega
    have h0y:0<rows[y].length:=by omega
    focus ((try (apply wO pk;exact rfl));(repeat' (first|(show All _;constructor)|(show Imp _ _;constructor)|(show ImpX _ _ _ _;constructor)|(apply wC pk;(iterate 2 exact rfl))|(apply wE pk;(iterate 2 exact rfl))|(apply wX pk;exact rfl)|(apply wN pk;exact rfl)|(apply wD pk [] [];kernel_rfl;exact rfl;exact rfl)|(apply aB;simp only [zqt,zqf])|(refine aC rfl (fun h=> ?_) (fun h=> ?_)<;>(try simp at h)<;>try (exfalso;omega))|(refine aD ?_;refine ⟨_,_,_,rfl,Wk.refl _,StSub.refl _, ?_,rfl⟩;try rfl)|(apply bC pk;(iterate 6 exact rfl);rotate_left;exact rfl;(intro hw;exact rfl);(intro hw;apply aM<;>omega);(intro _;exact rfl);exact rfl)|(intros;(try simp only [zql]);omega)|((exfalso;simp at*;omega)))))
    refine aP (X:={x:Nat//x≤s[i].unique.length}) (fun w=>((((((((((St.nil 157 st).var 2 24 ((scC s))).var 3 27 ((bsC b))).pv 5 ((PV.val (Value.bool (true))))).pv 6 ((PV.val (Value.int .i64 ((i:Nat)))))).pv 7 (.seq (rows.map roC))).var 8 43 (s[i].cells)).pv 9 ((PV.val (Value.int .i64 ((y:Nat)))))).pv 10 ((PV.val (Value.int .i64 ((z:Nat)))))).pv 11 ((PV.val (Value.int .i64 ((w.1:Nat))))))) (fun w=>s[i].unique.length-w.1) ⟨0,by omega⟩ ?_ (fun w=> ?_)
    · ((repeat (first|refine Sub.pv ?_ rfl|refine Sub.var ?_ rfl rfl));exact Sub.nil _ _ _ (StSub.refl _) rfl)
    obtain ⟨w,hw'⟩:=w
    dsimp only
    by_cases hend4:s[i].unique.length≤w
    · (try (apply wO pk;exact rfl));(repeat' (first|(show All _;constructor)|(show Imp _ _;constructor)|(show ImpX _ _ _ _;constructor)|(apply wC pk;(iterate 2 exact rfl))|(apply wE pk;(iterate 2 exact rfl))|(apply wX pk;exact rfl)|(apply wN pk;exact rfl)|(apply wD pk [] [];kernel_rfl;exact rfl;exact rfl)|(apply aB;simp only [zqt,zqf])|(refine aC rfl (fun h=> ?_) (fun h=> ?_)<;>(try simp at h)<;>try (exfalso;omega))|(refine aD ?_;refine ⟨_,_,_,rfl,Wk.refl _,StSub.refl _, ?_,rfl⟩;try rfl)|(refine ⟨⟨z+1,by omega⟩, ?_,by simp only;omega⟩;((repeat (first|refine Sub.pv ?_ rfl|refine Sub.var ?_ rfl rfl));exact Sub.nil _ _ _ (StSub.refl _) rfl))|(intros;(try simp only [zql]);omega)))
    have hwl:w<s[i].unique.length:=by omega
    have hU:=hun _ (List.getElem_mem hwl)
    have u1:=hU.c1
    have u2:=hU.c2
    have hci:s[i].unique[w]=((s[i].unique[w].toNat:Nat):Int):=by omega
    have l1:s[i].unique[w].toNat<rows[z].length:=by omega
    have l2:s[i].unique[w].toNat<rows[y].length:=by omega
    have hap:=hG.apart (List.getElem_mem hwl) hzy hyl
    rw [getElem!_pos rows[z] _ l1,getElem!_pos rows[y] _ l2] at hap
    by_cases hk1:rows[z][s[i].unique[w].toNat].kind=1
    · have hne:=hap hk1
      have hne2:¬(rows[z][s[i].unique[w].toNat].kind=rows[y][s[i].unique[w].toNat].kind∧rows[z][s[i].unique[w].toNat].n=rows[y][s[i].unique[w].toNat].n∧rows[z][s[i].unique[w].toNat].s=rows[y][s[i].unique[w].toNat].s):=fun q=>hne ((Vl.ext_iff _ _).2 q)
      (try (apply wO pk;exact rfl));(repeat' (first|(show All _;constructor)|(show Imp _ _;constructor)|(show ImpX _ _ _ _;constructor)|(apply wC pk;(iterate 2 exact rfl))|(apply wE pk;(iterate 2 exact rfl))|(apply wX pk;exact rfl)|(apply wN pk;exact rfl)|(apply wD pk [] [];kernel_rfl;exact rfl;exact rfl)|(apply aB;simp only [zqt,zqf])|(refine aC rfl (fun h=> ?_) (fun h=> ?_)<;>(try simp at h)<;>try (exfalso;omega))|(refine aD ?_;refine ⟨_,_,_,rfl,Wk.refl _,StSub.refl _, ?_,rfl⟩;try rfl)|(apply bC pk;(iterate 6 exact rfl);rotate_left;exact rfl;(first|((intro hw;exact rfl);(intro hw;apply aM<;>omega);(intro _;exact rfl))|((intro hw;exact hci);(intro hw;apply aM<;>omega);(intro _;exact rfl)));exact rfl)|(refine ⟨⟨w+1,by omega⟩, ?_,by simp only;omega⟩;((repeat (first|refine Sub.pv ?_ rfl|refine Sub.var ?_ rfl rfl));exact Sub.nil _ _ _ (StSub.refl _) rfl))|(intros;(try simp only [zql]);omega)|((exfalso;exact hne2 ⟨h.2.1,h.2.2.1,h.2.2.2⟩))))
    · (try (apply wO pk;exact rfl));(repeat' (first|(show All _;constructor)|(show Imp _ _;constructor)|(show ImpX _ _ _ _;constructor)|(apply wC pk;(iterate 2 exact rfl))|(apply wE pk;(iterate 2 exact rfl))|(apply wX pk;exact rfl)|(apply wN pk;exact rfl)|(apply wD pk [] [];kernel_rfl;exact rfl;exact rfl)|(apply aB;simp only [zqt,zqf])|(refine aC rfl (fun h=> ?_) (fun h=> ?_)<;>(try simp at h)<;>try (exfalso;omega))|(refine aD ?_;refine ⟨_,_,_,rfl,Wk.refl _,StSub.refl _, ?_,rfl⟩;try rfl)|(apply bC pk;(iterate 6 exact rfl);rotate_left;exact rfl;(first|((intro hw;exact rfl);(intro hw;apply aM<;>omega);(intro _;exact rfl))|((intro hw;exact hci);(intro hw;apply aM<;>omega);(intro _;exact rfl)));exact rfl)|(refine ⟨⟨w+1,by omega⟩, ?_,by simp only;omega⟩;((repeat (first|refine Sub.pv ?_ rfl|refine Sub.var ?_ rfl rfl));exact Sub.nil _ _ _ (StSub.refl _) rfl))|(intros;(try simp only [zql]);omega)|((exfalso;exact hk1 h.1))))
end Go.Proofs.YtcglimangneafaaGreatDoor
