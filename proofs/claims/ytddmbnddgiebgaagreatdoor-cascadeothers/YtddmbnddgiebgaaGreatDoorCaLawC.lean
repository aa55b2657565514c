import Derived.Test.YtddmbnddgiebgaaGreatDoorCaLawM
set_option linter.unusedSimpArgs false
set_option linter.unusedVariables false
namespace Go.Proofs.YtddmbnddgiebgaaGreatDoor
open Go Go.Abs
attribute [local irreducible] Ev PWp
set_option maxRecDepth 10000
set_option maxHeartbeats 4000000
theorem arQ {t:Tb} {l:Ln} {G:R2→Bool} {a:Int}:toB t l G a=true↔∃f∈t.foreign,bI G l f=true∧f.act=a:=by
  unfold toB
  rw [List.any_eq_true]
  simp only [Bool.and_eq_true,decide_eq_true_eq]
theorem adK {tx:Cl→Int} {s:Sc} {b:Bs} (h:bK tx s b=true) {z:R2} (hz:eQ b z=true) {k:Nat} (hk:k<s.length) {l:Ln} (hl:l∈b[k]!.lines):inR (bS s b z) ((k:Int),l.key)=(rB s[k] l (inR (bS s b z)) 1||decide (((k:Int),l.key)=z)):=by
  have hb:=(cO.1 h).1.2
  rw [adZ _ _ _ _ (by decide),Bool.eq_iff_iff,Bool.or_eq_true,decide_eq_true_eq,arQ]
  constructor
  · intro hi
    obtain ⟨_,hr⟩:=(fX hb).1 hi
    generalize hy:(((k:Int),l.key):R2)=y at hr
    cases hr with
    |refl=>exact .inr rfl
    | @step u y hu c=>
      obtain ⟨k',hk',f,hf,l',hl',h1,h2,h3,e⟩:=c
      rw [e,Prod.mk.injEq] at hy
      obtain ⟨e1,e2⟩:=hy
      obtain rfl:k=k':=by omega
      obtain rfl:l=l':=(mB h k hk').eq hl hl' e2
      left
      rw [getElem!_pos s k hk] at hf
      refine ⟨f,hf, ?_,h2⟩
      rw [jC h3,h1]
      exact (fX hb).2 ⟨hz,hu⟩
  · rintro (⟨f,hf,hh,ha⟩|e)
    · exact akK hb hk hl hf ha hh
    · rw [e];exact (fX hb).2 ⟨hz, .refl⟩
theorem xE (s:Sc) (b:Bs) (z0 z1:Int) (hs:ScB s) (hb:BsB b):PF Tryz.prog 4 [.agg (scC s), .agg (bsC b), .agg [(PV.val (Value.int .i64 (z0))),(PV.val (Value.int .i64 (z1)))]] (PV.val (Value.bool (true))):=by
  have hA:=fC
  have hf:=iZ s b hb
  cases g:kK b&&decide ((s.length:Int)≤20) with
  |false=>
    rw [g] at hf
    refine aL aH Tryz.func4 (by kernel_rfl) rfl rfl rfl rfl (fun st=> ?_)
    (try (apply wO pk;exact rfl));(repeat' (first|(show All _;constructor)|(show Imp _ _;constructor)|(show ImpX _ _ _ _;constructor)|(apply wC pk;(iterate 2 exact rfl))|(apply wE pk;(iterate 2 exact rfl))|(apply wX pk;exact rfl)|(apply wN pk;exact rfl)|(apply wD pk [] [];kernel_rfl;exact rfl;exact rfl)|(apply aC;simp only [zqt,zqf])|(refine aD rfl (fun h=> ?_) (fun h=> ?_)<;>(try simp at h)<;>try (exfalso;omega))|(refine aF ?_;refine ⟨_,_,_,rfl,Wk.refl _,StSub.refl _, ?_,rfl⟩;try rfl)|(apply aK;(iterate 3 exact rfl);(intro _;(first|apply hA|apply hf|apply (noB (by rename_i hh;exact hh)))<;>first|assumption|omega);rotate_left;(iterate 2 exact rfl))|(intros;(try simp only [zql]);omega)))
  |true=>
  rw [g] at hf
  obtain ⟨hB,hl⟩:=yR g
  have hr:=gD hB.1 (by omega) hs hl
  have hk:=mJ hB hs hl (z0,z1)
  cases g2:bK T.rightP s b with
  |false=>
    rw [g2] at hr
    refine aL aH Tryz.func4 (by kernel_rfl) rfl rfl rfl rfl (fun st=> ?_)
    (try (apply wO pk;exact rfl));(repeat' (first|(show All _;constructor)|(show Imp _ _;constructor)|(show ImpX _ _ _ _;constructor)|(apply wC pk;(iterate 2 exact rfl))|(apply wE pk;(iterate 2 exact rfl))|(apply wX pk;exact rfl)|(apply wN pk;exact rfl)|(apply wD pk [] [];kernel_rfl;exact rfl;exact rfl)|(apply aC;simp only [zqt,zqf])|(refine aD rfl (fun h=> ?_) (fun h=> ?_)<;>(try simp at h)<;>try (exfalso;omega))|(refine aF ?_;refine ⟨_,_,_,rfl,Wk.refl _,StSub.refl _, ?_,rfl⟩;try rfl)|(apply aK;(iterate 3 exact rfl);(intro _;(first|apply hA|apply hf|apply hr)<;>first|assumption|omega);rotate_left;(iterate 2 exact rfl))|(intros;(try simp only [zql]);omega)))
  |true=>
  rw [g2] at hr hk
  rw [if_pos rfl] at hk
  obtain ⟨⟨hr0,hlen⟩,_⟩:=cO.1 g2
  have hfo:=nP g2 hB.1
  have hn:=sQ (s:=s) hlen (z:=(z0,z1))
  have hKl:=oG (s:=s) hB (z0,z1)
  have hG:=rF (s:=s) hlen (z0,z1)
  have hlaw:=fun hz k (hk:k<s.length) l (hl:l∈b[k]!.lines)=>adK (z:=(z0,z1)) g2 hz hk hl
  have hme:eQ b (z0,z1)=true→inR (bS s b (z0,z1)) (z0,z1)=true:=fun hz=>(fX hlen).2 ⟨hz, .refl⟩
  rw [←hG] at hlaw hme
  have hgt:=vT hB.1 (by omega) z0 z1
  have hgs:(iV (bT b z0) z1).isSome=eQ b (z0,z1):=rfl
  rw [hgs] at hgt
  clear hgs
  generalize iV (bT b z0) z1=O at*
  have hln:=(hB.1.l (by omega)).2
  clear hG
  generalize jN s b (z0,z1)=K at*
  by_cases hz:eQ b (z0,z1)=true
  rotate_left
  · have hz2:eQ b (z0,z1)=false:=by simpa using hz
    have hK0:K=[]:=List.eq_nil_of_length_eq_zero (hn.2 hz2)
    subst hK0
    rw [hz2] at hgt
    refine aL aH Tryz.func4 (by kernel_rfl) rfl rfl rfl rfl (fun st=> ?_)
    (try (apply wO pk;exact rfl));(repeat' (first|(show All _;constructor)|(show Imp _ _;constructor)|(show ImpX _ _ _ _;constructor)|(apply wC pk;(iterate 2 exact rfl))|(apply wE pk;(iterate 2 exact rfl))|(apply wX pk;exact rfl)|(apply wN pk;exact rfl)|(apply wD pk [] [];kernel_rfl;exact rfl;exact rfl)|(apply aC;simp only [zqt,zqf])|(refine aD rfl (fun h=> ?_) (fun h=> ?_)<;>(try simp at h)<;>try (exfalso;omega))|(refine aF ?_;refine ⟨_,_,_,rfl,Wk.refl _,StSub.refl _, ?_,rfl⟩;try rfl)|(apply aK;(iterate 3 exact rfl);(intro _;(first|apply hA|apply hf|apply hr|apply hk|apply hgt)<;>first|assumption|omega);rotate_left;(iterate 2 exact rfl))|((apply eP pk 0;(iterate 5 exact rfl);(focus repeat' constructor);exact rfl;(intro _;rfl);(intro _;omega);exact rfl))|((apply eP pk 1;(iterate 5 exact rfl);(focus repeat' constructor);exact rfl;(intro _;rfl);(intro _;omega);exact rfl))|(intros;(try simp only [zql]);omega)|((exfalso;simp at*;done))))
  have hlaw:=hlaw hz
  rw [hz] at hgt
  have hin0:=jT K (z0,z1) hKl
  rw [hme hz] at hin0
  clear hme hn
  have h16:=hfo.f16
  have hreg:=hfo.reg
  refine aL aH Tryz.func4 (by kernel_rfl) rfl rfl rfl rfl (fun st=> ?_)
  focus ((try (apply wO pk;exact rfl));(repeat' (first|(show All _;constructor)|(show Imp _ _;constructor)|(show ImpX _ _ _ _;constructor)|(apply wC pk;(iterate 2 exact rfl))|(apply wE pk;(iterate 2 exact rfl))|(apply wX pk;exact rfl)|(apply wN pk;exact rfl)|(apply wD pk [] [];kernel_rfl;exact rfl;exact rfl)|(apply aC;simp only [zqt,zqf])|(refine aD rfl (fun h=> ?_) (fun h=> ?_)<;>(try simp at h)<;>try (exfalso;omega))|(refine aF ?_;refine ⟨_,_,_,rfl,Wk.refl _,StSub.refl _, ?_,rfl⟩;try rfl)|(apply aK;(iterate 3 exact rfl);(intro _;(first|apply hA|apply hf|apply hr|apply hk|apply hgt)<;>first|assumption|omega);rotate_left;(iterate 2 exact rfl))|((apply eP pk 0;(iterate 5 exact rfl);(focus repeat' constructor);exact rfl;(intro _;rfl);(intro _;omega);exact rfl))|((apply eP pk 1;(iterate 5 exact rfl);(focus repeat' constructor);exact rfl;(intro _;rfl);(intro _;omega);exact rfl))|(intros;(try simp only [zql]);omega))))
  refine aP (X:={i:Nat//i≤s.length}) (fun i=>(((((((St.nil 98 st).var 4 27 ((bsC b))).var 5 28 ([(PV.val (Value.int .i64 (z0))),(PV.val (Value.int .i64 (z1)))])).pv 7 (.seq (K.map r2C))).pv 53 (.seq (s.map Tb.cells))).pv 54 ((PV.val (Value.int .i64 (((s.map Tb.cells).length:Nat)))))).pv 55 ((PV.val (Value.int .i64 ((i.1:Nat))))))) (fun i=>s.length-i.1) ⟨0,by omega⟩ ?_ (fun i=> ?_)
  · ((repeat (first|refine Sub.pv ?_ rfl|refine Sub.var ?_ rfl rfl));exact Sub.nil _ _ _ (StSub.refl _) rfl)
  obtain ⟨i,hi⟩:=i
  dsimp only
  by_cases hend:s.length≤i
  · (try (apply wO pk;exact rfl));(repeat' (first|(show All _;constructor)|(show Imp _ _;constructor)|(show ImpX _ _ _ _;constructor)|(apply wC pk;(iterate 2 exact rfl))|(apply wE pk;(iterate 2 exact rfl))|(apply wX pk;exact rfl)|(apply wN pk;exact rfl)|(apply wD pk [] [];kernel_rfl;exact rfl;exact rfl)|(apply aC;simp only [zqt,zqf])|(refine aD rfl (fun h=> ?_) (fun h=> ?_)<;>(try simp at h)<;>try (exfalso;omega))|(refine aF ?_;refine ⟨_,_,_,rfl,Wk.refl _,StSub.refl _, ?_,rfl⟩;try rfl)|(apply aK;(iterate 3 exact rfl);(intro _;(first|apply hA|apply hin0)<;>first|assumption|omega);rotate_left;(iterate 2 exact rfl))|(intros;(try simp only [zql]);omega)))
  have his:i<s.length:=by omega
  have hib:i<b.length:=by omega
  have hreg:=hreg i his
  have h16:=h16 i his
  have hlaw:=hlaw i his
  have hln:=hln _ (List.getElem_mem hib)
  rw [getElem!_pos b i hib] at hreg hlaw
  focus ((try (apply wO pk;exact rfl));(repeat' (first|(show All _;constructor)|(show Imp _ _;constructor)|(show ImpX _ _ _ _;constructor)|(apply wC pk;(iterate 2 exact rfl))|(apply wE pk;(iterate 2 exact rfl))|(apply wX pk;exact rfl)|(apply wN pk;exact rfl)|(apply wD pk [] [];kernel_rfl;exact rfl;exact rfl)|(apply aC;simp only [zqt,zqf])|(refine aD rfl (fun h=> ?_) (fun h=> ?_)<;>(try simp at h)<;>try (exfalso;omega))|(refine aF ?_;refine ⟨_,_,_,rfl,Wk.refl _,StSub.refl _, ?_,rfl⟩;try rfl)|(apply bC pk;(iterate 6 exact rfl);rotate_left;exact rfl;(intro hw;exact rfl);(intro hw;apply aJ<;>omega);(intro _;exact rfl);exact rfl)|(intros;(try simp only [zql]);omega))))
  refine aP (X:={y:Nat//y≤b[i].lines.length}) (fun y=>((((((((((((St.nil 98 st).var 4 27 ((bsC b))).var 5 28 ([(PV.val (Value.int .i64 (z0))),(PV.val (Value.int .i64 (z1)))])).pv 7 (.seq (K.map r2C))).pv 10 ((PV.val (Value.int .i64 ((i:Nat)))))).var 11 52 (s[i].cells)).pv 53 (.seq (s.map Tb.cells))).pv 54 ((PV.val (Value.int .i64 (((s.map Tb.cells).length:Nat)))))).pv 55 ((PV.val (Value.int .i64 ((i:Nat)))))).pv 65 (.seq (b[i].lines.map Ln.cells))).pv 66 ((PV.val (Value.int .i64 (((b[i].lines.map Ln.cells).length:Nat)))))).pv 67 ((PV.val (Value.int .i64 ((y.1:Nat))))))) (fun y=>b[i].lines.length-y.1) ⟨0,by omega⟩ ?_ (fun y=> ?_)
  · ((repeat (first|refine Sub.pv ?_ rfl|refine Sub.var ?_ rfl rfl));exact Sub.nil _ _ _ (StSub.refl _) rfl)
  obtain ⟨y,hy⟩:=y
  dsimp only
  by_cases hend2:b[i].lines.length≤y
  · (try (apply wO pk;exact rfl));(repeat' (first|(show All _;constructor)|(show Imp _ _;constructor)|(show ImpX _ _ _ _;constructor)|(apply wC pk;(iterate 2 exact rfl))|(apply wE pk;(iterate 2 exact rfl))|(apply wX pk;exact rfl)|(apply wN pk;exact rfl)|(apply wD pk [] [];kernel_rfl;exact rfl;exact rfl)|(apply aC;simp only [zqt,zqf])|(refine aD rfl (fun h=> ?_) (fun h=> ?_)<;>(try simp at h)<;>try (exfalso;omega))|(refine aF ?_;refine ⟨_,_,_,rfl,Wk.refl _,StSub.refl _, ?_,rfl⟩;try rfl)|(apply bC pk;(iterate 6 exact rfl);rotate_left;exact rfl;(intro hw;exact rfl);(intro hw;apply aJ<;>omega);(intro _;exact rfl);exact rfl)|(refine ⟨⟨i+1,by omega⟩, ?_,by simp only;omega⟩;((repeat (first|refine Sub.pv ?_ rfl|refine Sub.var ?_ rfl rfl));exact Sub.nil _ _ _ (StSub.refl _) rfl))|(intros;(try simp only [zql]);omega)))
  have hyl:y<b[i].lines.length:=by omega
  obtain ⟨l,hle⟩:∃l,b[i].lines[y]=l:=⟨_,rfl⟩
  have hgl:(b[i].lines.map Ln.cells)[y]?=some l.cells:=by rw [List.getElem?_map,List.getElem?_eq_getElem hyl,hle];rfl
  have hlm:l∈b[i].lines:=hle▸List.getElem_mem hyl
  have hin:=jT K ((i:Int),l.key) hKl
  have hpt:=oH s[i] l K 1 hKl (by omega) fun f hf=>hreg f hf l hlm
  have hlw:=hlaw l hlm
  clear hlaw
  rw [hlw] at hin
  clear hlw
  generalize rB s[i] l (inR K) 1=A2 at*
  by_cases hq:((i:Int),l.key)=(z0,z1)
  · rw [decide_eq_true hq,Bool.or_true] at hin
    have hk1:=congrArg Prod.fst hq
    have hk2:=congrArg Prod.snd hq
    simp only at hk1 hk2
    (try (apply wO pk;exact rfl));(repeat' (first|(show All _;constructor)|(show Imp _ _;constructor)|(show ImpX _ _ _ _;constructor)|(apply wC pk;(iterate 2 exact rfl))|(apply wE pk;(iterate 2 exact rfl))|(apply wX pk;exact rfl)|(apply wN pk;exact rfl)|(apply wD pk [] [];kernel_rfl;exact rfl;exact rfl)|(apply aC;simp only [zqt,zqf])|(refine aD rfl (fun h=> ?_) (fun h=> ?_)<;>(try simp at h)<;>try (exfalso;omega))|(refine aF ?_;refine ⟨_,_,_,rfl,Wk.refl _,StSub.refl _, ?_,rfl⟩;try rfl)|(apply aK;(iterate 3 exact rfl);(intro _;(first|apply hin|apply hpt)<;>first|assumption|omega);rotate_left;(iterate 2 exact rfl))|(apply bC pk;(iterate 6 exact rfl);rotate_left;exact rfl;(first|((intro hw;exact rfl);(intro hw;apply hgl<;>omega);(intro _;exact rfl))|((intro hw;exact rfl);(intro hw;apply aJ<;>omega);(intro _;exact rfl)));exact rfl)|(refine ⟨⟨y+1,by omega⟩, ?_,by simp only;omega⟩;((repeat (first|refine Sub.pv ?_ rfl|refine Sub.var ?_ rfl rfl));exact Sub.nil _ _ _ (StSub.refl _) rfl))|(intros;(try simp only [zql]);omega)|((exfalso;simp_all;done))))
  · rw [decide_eq_false hq,Bool.or_false] at hin
    have hk3:¬((i:Int)=z0∧l.key=z1):=fun h=>hq (Prod.ext h.1 h.2)
    (try (apply wO pk;exact rfl));(repeat' (first|(show All _;constructor)|(show Imp _ _;constructor)|(show ImpX _ _ _ _;constructor)|(apply wC pk;(iterate 2 exact rfl))|(apply wE pk;(iterate 2 exact rfl))|(apply wX pk;exact rfl)|(apply wN pk;exact rfl)|(apply wD pk [] [];kernel_rfl;exact rfl;exact rfl)|(apply aC;simp only [zqt,zqf])|(refine aD rfl (fun h=> ?_) (fun h=> ?_)<;>(try simp at h)<;>try (exfalso;omega))|(refine aF ?_;refine ⟨_,_,_,rfl,Wk.refl _,StSub.refl _, ?_,rfl⟩;try rfl)|(apply aK;(iterate 3 exact rfl);(intro _;(first|apply hin|apply hpt)<;>first|assumption|omega);rotate_left;(iterate 2 exact rfl))|(apply bC pk;(iterate 6 exact rfl);rotate_left;exact rfl;(first|((intro hw;exact rfl);(intro hw;apply hgl<;>omega);(intro _;exact rfl))|((intro hw;exact rfl);(intro hw;apply aJ<;>omega);(intro _;exact rfl)));exact rfl)|(refine ⟨⟨y+1,by omega⟩, ?_,by simp only;omega⟩;((repeat (first|refine Sub.pv ?_ rfl|refine Sub.var ?_ rfl rfl));exact Sub.nil _ _ _ (StSub.refl _) rfl))|(intros;(try simp only [zql]);omega)|((exfalso;simp_all;done))))
end Go.Proofs.YtddmbnddgiebgaaGreatDoor
