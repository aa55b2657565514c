import Derived.Test.YtddmbnddgiebgaaGreatDoorCaLawG
set_option linter.unusedSimpArgs false
set_option linter.unusedVariables false
namespace Go.Proofs.YtddmbnddgiebgaaGreatDoor
open Go Go.Abs
attribute [local irreducible] Ev PWp
set_option maxRecDepth 10000
set_option maxHeartbeats 4000000
theorem apH {t:Tb} {G:R2→Bool} {who:Dt} {l:Ln} (h:fZ t G l=true):(bH t G who l).by_=(bP l who).by_:=by unfold bH;rw [if_pos h]
theorem apY {t:Tb} {G:R2→Bool} {who:Dt} {l:Ln} (h:fZ t G l=true):bH t G who l≠bP l who:=fun e=>by
  obtain ⟨f,hf,hh⟩:=gR.1 h
  obtain ⟨k,h1,h2⟩:=gT.1 hh
  have h3:ptP (bH t G who l) f.col=none:=by rw [lY,if_pos (dX.2 ⟨f,hf,rfl,hh⟩)]
  rw [e] at h3
  have h4:ptP (bP l who) f.col=ptP l f.col:=by
    have:(bP l who).cells_=l.cells_:=by unfold bP;split<;>rfl
    unfold ptP
    rw [this]
  rw [h4,h1] at h3;cases h3
theorem alY {s:Sc} {b:Bs} {G:R2→Bool} {who:Dt} {k:Nat} (hk:k<b.length) (hS:KSort b[k]!.lines) {l:Ln} (hl:l∈b[k]!.lines) (hg:G ((k:Int),l.key)=false):iV (bT (eS s b G who) k) l.key=some (bH s[k]! G who l):=by
  have e:bT (eS s b G who) k=iT s b G who k:=by
    unfold bT okT
    rw [Int.toNat_natCast,eC,if_pos (by simp;omega),fU hk]
  rw [e]
  exact (aoC (vI hS)).2 ⟨gS.2 ⟨l,hl,hg,rfl⟩,gB _ _ _ _⟩
theorem xB (s:Sc) (b:Bs) (z0 z1:Int) (who:Dt) (hs:ScB s) (hb:BsB b):PF Tryz.prog 6 [.agg (scC s), .agg (bsC b), .agg [(PV.val (Value.int .i64 (z0))),(PV.val (Value.int .i64 (z1)))], .agg who.cells] (PV.val (Value.bool (true))):=by
  have hA:=fC
  have hf:=iZ s b hb
  cases g:kK b&&decide ((s.length:Int)≤20) with
  |false=>
    rw [g] at hf
    refine aL aH Tryz.func6 (by kernel_rfl) rfl rfl rfl rfl (fun st=> ?_)
    (try (apply wO pk;exact rfl));(repeat' (first|(show All _;constructor)|(show Imp _ _;constructor)|(show ImpX _ _ _ _;constructor)|(apply wC pk;(iterate 2 exact rfl))|(apply wE pk;(iterate 2 exact rfl))|(apply wX pk;exact rfl)|(apply wN pk;exact rfl)|(apply wD pk [] [];kernel_rfl;exact rfl;exact rfl)|(apply aC;simp only [zqt,zqf])|(refine aD rfl (fun h=> ?_) (fun h=> ?_)<;>(try simp at h)<;>try (exfalso;omega))|(refine aF ?_;refine ⟨_,_,_,rfl,Wk.refl _,StSub.refl _, ?_,rfl⟩;try rfl)|(apply aK;(iterate 3 exact rfl);(intro _;(first|apply hA|apply hf)<;>first|assumption|omega);rotate_left;(iterate 2 exact rfl))|(intros;(try simp only [zql]);omega)))
  |true=>
  rw [g] at hf
  obtain ⟨hB,hl⟩:=yR g
  have hk:=mJ hB hs hl (z0,z1)
  have hde:=fR hB hs hl (z0,z1) who
  have hoW:=tK (rb:=bK T.rightP s b) (s:=s) (z:=(z0,z1)) (who:=who) (M:=bS s b (z0,z1)) hB (by omega)
  have hok:= @mG (bK T.rightP s b) s b (z0,z1) who (bS s b (z0,z1))
  generalize dQ (bK T.rightP s b) s b (z0,z1) who (bS s b (z0,z1))=o at*
  by_cases he:o.2=0
  rotate_left
  · refine aL aH Tryz.func6 (by kernel_rfl) rfl rfl rfl rfl (fun st=> ?_)
    (try (apply wO pk;exact rfl));(repeat' (first|(show All _;constructor)|(show Imp _ _;constructor)|(show ImpX _ _ _ _;constructor)|(apply wC pk;(iterate 2 exact rfl))|(apply wE pk;(iterate 2 exact rfl))|(apply wX pk;exact rfl)|(apply wN pk;exact rfl)|(apply wD pk [] [];kernel_rfl;exact rfl;exact rfl)|(apply aC;simp only [zqt,zqf])|(refine aD rfl (fun h=> ?_) (fun h=> ?_)<;>(try simp at h)<;>try (exfalso;omega))|(refine aF ?_;refine ⟨_,_,_,rfl,Wk.refl _,StSub.refl _, ?_,rfl⟩;try rfl)|(apply aK;(iterate 3 exact rfl);(intro _;(first|apply hA|apply hf|apply hk|apply hde)<;>first|assumption|omega);rotate_left;(iterate 2 exact rfl))|((apply eP pk 0;(iterate 5 exact rfl);(focus repeat' constructor);exact rfl;(intro _;rfl);(intro _;omega);exact rfl))|((apply eP pk 1;(iterate 5 exact rfl);(focus repeat' constructor);exact rfl;(intro _;rfl);(intro _;omega);exact rfl))|(intros;(try simp only [zql]);omega)|((exfalso;first|omega|(simp_all;done)))))
  obtain ⟨g2,hz,_,ho⟩:=hok he
  rw [g2,if_pos rfl] at hk
  obtain ⟨⟨hr0,hlen⟩,_⟩:=cO.1 g2
  have hfo:=nP g2 hB.1
  have hKl:=oG (s:=s) hB (z0,z1)
  have hG:=rF (s:=s) hlen (z0,z1)
  rw [←hG] at ho
  clear hG
  generalize jN s b (z0,z1)=K at*
  clear hz
  obtain ⟨x,e⟩:=o
  simp only at he ho hoW hde
  subst he
  have hsort:=mB g2
  have hget:∀i (hi:i<b.length) (his:i<s.length),∀l∈b[i].lines,inR K ((i:Int),l.key)=false→iV (bT x i) l.key=some (bH s[i] (inR K) who l):=fun i hi his l hl hg=>by
    rw [ho,alY hi (hsort i hi) (by rw [getElem!_pos b i hi];exact hl) hg,getElem!_pos s i his]
  clear hok ho
  have hln:=(hB.1.l (by omega)).2
  have hreg:=hfo.reg
  have h16:=hfo.f16
  refine aL aH Tryz.func6 (by kernel_rfl) rfl rfl rfl rfl (fun st=> ?_)
  focus ((try (apply wO pk;exact rfl));(repeat' (first|(show All _;constructor)|(show Imp _ _;constructor)|(show ImpX _ _ _ _;constructor)|(apply wC pk;(iterate 2 exact rfl))|(apply wE pk;(iterate 2 exact rfl))|(apply wX pk;exact rfl)|(apply wN pk;exact rfl)|(apply wD pk [] [];kernel_rfl;exact rfl;exact rfl)|(apply aC;simp only [zqt,zqf])|(refine aD rfl (fun h=> ?_) (fun h=> ?_)<;>(try simp at h)<;>try (exfalso;omega))|(refine aF ?_;refine ⟨_,_,_,rfl,Wk.refl _,StSub.refl _, ?_,rfl⟩;try rfl)|(apply aK;(iterate 3 exact rfl);(intro _;(first|apply hA|apply hf|apply hk|apply hde)<;>first|assumption|omega);rotate_left;(iterate 2 exact rfl))|((apply eP pk 0;(iterate 5 exact rfl);(focus repeat' constructor);exact rfl;(intro _;rfl);(intro _;omega);exact rfl))|((apply eP pk 1;(iterate 5 exact rfl);(focus repeat' constructor);exact rfl;(intro _;rfl);(intro _;omega);exact rfl))|(intros;(try simp only [zql]);omega)|((exfalso;first|omega|(simp_all;done))))))
  refine aP (X:={i:Nat//i≤s.length}) (fun i=>((((((((St.nil 105 st).var 5 27 ((bsC b))).var 7 30 (who.cells)).pv 9 (.seq (K.map r2C))).var 10 27 (bsC x)).pv 45 (.seq (s.map Tb.cells))).pv 46 ((PV.val (Value.int .i64 (((s.map Tb.cells).length:Nat)))))).pv 47 ((PV.val (Value.int .i64 ((i.1:Nat))))))) (fun i=>s.length-i.1) ⟨0,by omega⟩ ?_ (fun i=> ?_)
  · ((repeat (first|refine Sub.pv ?_ rfl|refine Sub.var ?_ rfl rfl));exact Sub.nil _ _ _ (StSub.refl _) rfl)
  obtain ⟨i,hi⟩:=i
  dsimp only
  by_cases hend:s.length≤i
  · (try (apply wO pk;exact rfl));(repeat' (first|(show All _;constructor)|(show Imp _ _;constructor)|(show ImpX _ _ _ _;constructor)|(apply wC pk;(iterate 2 exact rfl))|(apply wE pk;(iterate 2 exact rfl))|(apply wX pk;exact rfl)|(apply wN pk;exact rfl)|(apply wD pk [] [];kernel_rfl;exact rfl;exact rfl)|(apply aC;simp only [zqt,zqf])|(refine aD rfl (fun h=> ?_) (fun h=> ?_)<;>(try simp at h)<;>try (exfalso;omega))|(refine aF ?_;refine ⟨_,_,_,rfl,Wk.refl _,StSub.refl _, ?_,rfl⟩;try rfl)|(apply aK;(iterate 3 exact rfl);(intro _;apply hA<;>first|assumption|omega);rotate_left;(iterate 2 exact rfl))|(intros;(try simp only [zql]);omega)))
  have his:i<s.length:=by omega
  have hib:i<b.length:=by omega
  have h16:=h16 i his
  have hget:=hget i hib his
  have hreg:=hreg i his
  rw [getElem!_pos b i hib] at hreg
  have hln:=hln _ (List.getElem_mem hib)
  have hBl:=hB.1.2 _ (List.getElem_mem hib)
  have hBy:=hB.2 _ (List.getElem_mem hib)
  focus ((try (apply wO pk;exact rfl));(repeat' (first|(show All _;constructor)|(show Imp _ _;constructor)|(show ImpX _ _ _ _;constructor)|(apply wC pk;(iterate 2 exact rfl))|(apply wE pk;(iterate 2 exact rfl))|(apply wX pk;exact rfl)|(apply wN pk;exact rfl)|(apply wD pk [] [];kernel_rfl;exact rfl;exact rfl)|(apply aC;simp only [zqt,zqf])|(refine aD rfl (fun h=> ?_) (fun h=> ?_)<;>(try simp at h)<;>try (exfalso;omega))|(refine aF ?_;refine ⟨_,_,_,rfl,Wk.refl _,StSub.refl _, ?_,rfl⟩;try rfl)|(apply bC pk;(iterate 6 exact rfl);rotate_left;exact rfl;(intro hw;exact rfl);(intro hw;apply aJ<;>omega);(intro _;exact rfl);exact rfl)|(intros;(try simp only [zql]);omega))))
  refine aP (X:={y:Nat//y≤b[i].lines.length}) (fun y=>(((((((((((((St.nil 105 st).var 5 27 ((bsC b))).var 7 30 (who.cells)).pv 9 (.seq (K.map r2C))).var 10 27 (bsC x)).pv 12 ((PV.val (Value.int .i64 ((i:Nat)))))).var 13 52 (s[i].cells)).pv 45 (.seq (s.map Tb.cells))).pv 46 ((PV.val (Value.int .i64 (((s.map Tb.cells).length:Nat)))))).pv 47 ((PV.val (Value.int .i64 ((i:Nat)))))).pv 57 (.seq (b[i].lines.map Ln.cells))).pv 58 ((PV.val (Value.int .i64 (((b[i].lines.map Ln.cells).length:Nat)))))).pv 59 ((PV.val (Value.int .i64 ((y.1:Nat))))))) (fun y=>b[i].lines.length-y.1) ⟨0,by omega⟩ ?_ (fun y=> ?_)
  · ((repeat (first|refine Sub.pv ?_ rfl|refine Sub.var ?_ rfl rfl));exact Sub.nil _ _ _ (StSub.refl _) rfl)
  obtain ⟨y,hy⟩:=y
  dsimp only
  by_cases hend2:b[i].lines.length≤y
  · (try (apply wO pk;exact rfl));(repeat' (first|(show All _;constructor)|(show Imp _ _;constructor)|(show ImpX _ _ _ _;constructor)|(apply wC pk;(iterate 2 exact rfl))|(apply wE pk;(iterate 2 exact rfl))|(apply wX pk;exact rfl)|(apply wN pk;exact rfl)|(apply wD pk [] [];kernel_rfl;exact rfl;exact rfl)|(apply aC;simp only [zqt,zqf])|(refine aD rfl (fun h=> ?_) (fun h=> ?_)<;>(try simp at h)<;>try (exfalso;omega))|(refine aF ?_;refine ⟨_,_,_,rfl,Wk.refl _,StSub.refl _, ?_,rfl⟩;try rfl)|(apply bC pk;(iterate 6 exact rfl);rotate_left;exact rfl;(intro hw;exact rfl);(intro hw;apply aJ<;>omega);(intro _;exact rfl);exact rfl)|(refine ⟨⟨i+1,by omega⟩, ?_,by simp only;omega⟩;((repeat (first|refine Sub.pv ?_ rfl|refine Sub.var ?_ rfl rfl));exact Sub.nil _ _ _ (StSub.refl _) rfl))|(intros;(try simp only [zql]);omega)))
  have hyl:y<b[i].lines.length:=by omega
  obtain ⟨l,hle⟩:∃l,b[i].lines[y]=l:=⟨_,rfl⟩
  have hgl:(b[i].lines.map Ln.cells)[y]?=some l.cells:=by rw [List.getElem?_map,List.getElem?_eq_getElem hyl,hle];rfl
  have hlm:l∈b[i].lines:=hle▸List.getElem_mem hyl
  have hin:=jT K ((i:Int),l.key) hKl
  cases hi0:inR K ((i:Int),l.key) with
  |true=>
    rw [hi0] at hin
    (try (apply wO pk;exact rfl));(repeat' (first|(show All _;constructor)|(show Imp _ _;constructor)|(show ImpX _ _ _ _;constructor)|(apply wC pk;(iterate 2 exact rfl))|(apply wE pk;(iterate 2 exact rfl))|(apply wX pk;exact rfl)|(apply wN pk;exact rfl)|(apply wD pk [] [];kernel_rfl;exact rfl;exact rfl)|(apply aC;simp only [zqt,zqf])|(refine aD rfl (fun h=> ?_) (fun h=> ?_)<;>(try simp at h)<;>try (exfalso;omega))|(refine aF ?_;refine ⟨_,_,_,rfl,Wk.refl _,StSub.refl _, ?_,rfl⟩;try rfl)|(apply aK;(iterate 3 exact rfl);(intro _;apply hin<;>first|assumption|omega);rotate_left;(iterate 2 exact rfl))|(apply bC pk;(iterate 6 exact rfl);rotate_left;exact rfl;(first|((intro hw;exact rfl);(intro hw;apply hgl<;>omega);(intro _;exact rfl))|((intro hw;exact rfl);(intro hw;apply aJ<;>omega);(intro _;exact rfl)));exact rfl)|(refine ⟨⟨y+1,by omega⟩, ?_,by simp only;omega⟩;((repeat (first|refine Sub.pv ?_ rfl|refine Sub.var ?_ rfl rfl));exact Sub.nil _ _ _ (StSub.refl _) rfl))|(intros;(try simp only [zql]);omega)))
  |false=>
  rw [hi0] at hin
  have hgx:=vT hoW.1 (by omega) (i:Int) l.key
  rw [hget l hlm hi0] at hgx
  have hpt:=oH s[i] l K (-1) hKl (by omega) fun f hf=>hreg f hf l hlm
  rw [aeL] at hpt
  have hlS:=(hBl.2 l hlm)
  have hlB:=hBy l hlm
  have hxS:=anH (t:=s[i]) (G:=inR K) (who:=who) hlS hlB (by omega)
  clear hget
  cases ha:fZ s[i] (inR K) l with
  |true=>
    rw [ha] at hpt
    have hwr:=sO l who (by omega)
    have hsm:=tV hxS.1 (bP l who)
    rw [decide_eq_false (apY ha)] at hsm
    have hby:=apH (who:=who) ha
    generalize bH s[i] (inR K) who l=lx at*
    generalize bP l who=lw at*
    have hbl:(lx.by_.map Dt.cells).length=(lw.by_.map Dt.cells).length:=by rw [hby]
    have hbl2:lx.by_.length=lw.by_.length:=by rw [hby]
    clear hby
    (try (apply wO pk;exact rfl));(repeat' (first|(show All _;constructor)|(show Imp _ _;constructor)|(show ImpX _ _ _ _;constructor)|(apply wC pk;(iterate 2 exact rfl))|(apply wE pk;(iterate 2 exact rfl))|(apply wX pk;exact rfl)|(apply wN pk;exact rfl)|(apply wD pk [] [];kernel_rfl;exact rfl;exact rfl)|(apply aC;simp only [zqt,zqf])|(refine aD rfl (fun h=> ?_) (fun h=> ?_)<;>(try simp at h)<;>try (exfalso;omega))|(refine aF ?_;refine ⟨_,_,_,rfl,Wk.refl _,StSub.refl _, ?_,rfl⟩;try rfl)|(apply aK;(iterate 3 exact rfl);(intro _;(first|apply hin|apply hgx|apply hpt|apply hwr|apply hsm)<;>first|assumption|omega);rotate_left;(iterate 2 exact rfl))|(apply bC pk;(iterate 6 exact rfl);rotate_left;exact rfl;(first|((intro hw;exact rfl);(intro hw;apply hgl<;>omega);(intro _;exact rfl))|((intro hw;exact rfl);(intro hw;apply aJ<;>omega);(intro _;exact rfl)));exact rfl)|(refine ⟨⟨y+1,by omega⟩, ?_,by simp only;omega⟩;((repeat (first|refine Sub.pv ?_ rfl|refine Sub.var ?_ rfl rfl));exact Sub.nil _ _ _ (StSub.refl _) rfl))|(intros;(try simp only [zql]);omega)|((exfalso;first|omega|(simp_all;done)))))
  |false=>
    rw [ha] at hpt
    have e:bH s[i] (inR K) who l=l:=by unfold bH;rw [if_neg (by rw [ha];simp)]
    rw [e] at hgx
    have hsm:=tV hlS l
    rw [decide_eq_true rfl] at hsm
    (try (apply wO pk;exact rfl));(repeat' (first|(show All _;constructor)|(show Imp _ _;constructor)|(show ImpX _ _ _ _;constructor)|(apply wC pk;(iterate 2 exact rfl))|(apply wE pk;(iterate 2 exact rfl))|(apply wX pk;exact rfl)|(apply wN pk;exact rfl)|(apply wD pk [] [];kernel_rfl;exact rfl;exact rfl)|(apply aC;simp only [zqt,zqf])|(refine aD rfl (fun h=> ?_) (fun h=> ?_)<;>(try simp at h)<;>try (exfalso;omega))|(refine aF ?_;refine ⟨_,_,_,rfl,Wk.refl _,StSub.refl _, ?_,rfl⟩;try rfl)|(apply aK;(iterate 3 exact rfl);(intro _;(first|apply hin|apply hgx|apply hpt|apply hsm)<;>first|assumption|omega);rotate_left;(iterate 2 exact rfl))|(apply bC pk;(iterate 6 exact rfl);rotate_left;exact rfl;(first|((intro hw;exact rfl);(intro hw;apply hgl<;>omega);(intro _;exact rfl))|((intro hw;exact rfl);(intro hw;apply aJ<;>omega);(intro _;exact rfl)));exact rfl)|(refine ⟨⟨y+1,by omega⟩, ?_,by simp only;omega⟩;((repeat (first|refine Sub.pv ?_ rfl|refine Sub.var ?_ rfl rfl));exact Sub.nil _ _ _ (StSub.refl _) rfl))|(intros;(try simp only [zql]);omega)|((exfalso;first|omega|(simp_all;done)))))
end Go.Proofs.YtddmbnddgiebgaaGreatDoor
