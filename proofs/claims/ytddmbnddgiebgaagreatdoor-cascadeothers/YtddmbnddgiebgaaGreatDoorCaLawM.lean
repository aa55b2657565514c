import Derived.Test.YtddmbnddgiebgaaGreatDoorCaLawD
set_option linter.unusedSimpArgs false
set_option linter.unusedVariables false
namespace Go.Proofs.YtddmbnddgiebgaaGreatDoor
open Go Go.Abs
attribute [local irreducible] Ev PWp
set_option maxRecDepth 10000
set_option maxHeartbeats 4000000
theorem adZ (t:Tb) (l:Ln) (G:R2→Bool) (a:Int) (h:0≤a):rB t l G a=toB t l G a:=by
  unfold rB toB
  congr 1
  funext f
  rw [decide_eq_false (by omega:¬a<0),Bool.false_or]
theorem aeL (t:Tb) (l:Ln) (G:R2→Bool):rB t l G (-1)=fZ t G l:=by
  unfold rB fZ
  congr 1
  funext f
  simp
def mT (t:Tb) (G:R2→Bool) (k:Nat) (l:Ln):Bool:= !G ((k:Int),l.key)&&rB t l G 0
def yG (s:Sc) (b:Bs) (G:R2→Bool) (k:Nat):Bool:=b[k]!.lines.any (mT s[k]! G k)
theorem alL {tx:Cl→Int} {s:Sc} {b:Bs} (h:bK tx s b=true) (z:R2):(List.range b.length).any (yG s b (inR (bS s b z)))= !oA s b (inR (bS s b z)):=by
  have hb:=(cO.1 h).1.2
  have hl:∀k,k<b.length→∀l∈b[k]!.lines,mT s[k]! (inR (bS s b z)) k l= !nX s[k]! (inR (bS s b z)) k l:=fun k hk l hl=>by
    unfold mT nX
    cases hG:inR (bS s b z) ((k:Int),l.key) with
    |true=>rfl
    |false=>
      have hks:k<s.length:=by omega
      have:=aoP (t:=s[k]!) (G:=inR (bS s b z)) (l:=l) (by rw [getElem!_pos s k hks];exact auB h z k hks l hl hG)
      rw [this,adZ _ _ _ _ (by decide)];simp
  unfold oA
  rw [Bool.eq_iff_iff,List.any_eq_true,Bool.not_eq_true',←Bool.not_eq_true,List.all_eq_true]
  constructor
  · rintro ⟨k,hk,e⟩ q
    have hk':=List.mem_range.1 hk
    obtain ⟨l,hl',e⟩:=List.any_eq_true.1 e
    rw [hl k hk' l hl',List.all_eq_true.1 (q k hk) l hl'] at e;cases e
  · intro q
    refine Classical.byContradiction fun hn=>q fun k hk=> ?_
    rw [List.all_eq_true]
    intro l hl'
    cases e:nX s[k]! (inR (bS s b z)) k l with
    |true=>rfl
    |false=>exact absurd ⟨k,hk,List.any_eq_true.2 ⟨l,hl',by rw [hl k (List.mem_range.1 hk) l hl',e];rfl⟩⟩ hn
theorem ahW {f:Nat→Bool} (i:Nat):(List.range (i+1)).any f=((List.range i).any f||f i):=by rw [List.range_succ,List.any_append];simp
theorem ajF {α:Type} {f:α→Bool} {l:List α} {y:Nat} (h:y<l.length):(l.take (y+1)).any f=((l.take y).any f||f l[y]):=by rw [List.take_succ_eq_append_getElem h,List.any_append];simp
theorem oG {s:Sc} {b:Bs} {m:Nat} (hB:BsW m b) (z:R2):(jN s b z).length<1000000000000:=by
  have:=tP hB.1
  unfold jN
  split
  · have:(adC s b z).length≤(bR b).length:=List.length_filter_le ..
    omega
  · simp
theorem sQ {s:Sc} {b:Bs} (hb:b.length=s.length) {z:R2}:(jN s b z).length=0↔eQ b z=false:=by
  unfold jN
  cases hz:eQ b z with
  |false=>simp
  |true=>
    have hm:=gC.1 hz
    have:=List.length_pos_of_mem ((tI hb hm z).2 ((oW hb hm).me z rfl))
    simp;intro e;rw [e] at this;simp at this
theorem aiX (s:Sc) (b:Bs) (z0 z1:Int) (hs:ScB s) (hb:BsB b):PF Tryz.prog 7 [.agg (scC s), .agg (bsC b), .agg [(PV.val (Value.int .i64 (z0))),(PV.val (Value.int .i64 (z1)))]] (PV.val (Value.bool (true))):=by
  have hA:=fC
  have hf:=iZ s b hb
  cases g:kK b&&decide ((s.length:Int)≤20) with
  |false=>
    rw [g] at hf
    refine aL aH Tryz.func7 (by kernel_rfl) rfl rfl rfl rfl (fun st=> ?_)
    (try (apply wO pk;exact rfl));(repeat' (first|(show All _;constructor)|(show Imp _ _;constructor)|(show ImpX _ _ _ _;constructor)|(apply wC pk;(iterate 2 exact rfl))|(apply wE pk;(iterate 2 exact rfl))|(apply wX pk;exact rfl)|(apply wN pk;exact rfl)|(apply wD pk [] [];kernel_rfl;exact rfl;exact rfl)|(apply aC;simp only [zqt,zqf])|(refine aD rfl (fun h=> ?_) (fun h=> ?_)<;>(try simp at h)<;>try (exfalso;omega))|(refine aF ?_;refine ⟨_,_,_,rfl,Wk.refl _,StSub.refl _, ?_,rfl⟩;try rfl)|(apply aK;(iterate 3 exact rfl);(intro _;(first|apply hA|apply hf|apply (noB (by rename_i hh;exact hh)))<;>first|assumption|omega);rotate_left;(iterate 2 exact rfl))|(intros;(try simp only [zql]);omega)))
  |true=>
  rw [g] at hf
  obtain ⟨hB,hl⟩:=yR g
  have hr:=gD hB.1 (by omega) hs hl
  have hk:=mJ hB hs hl (z0,z1)
  have hd:=fR hB hs hl (z0,z1) ⟨1,1⟩
  cases g2:bK T.rightP s b with
  |false=>
    rw [g2] at hr
    refine aL aH Tryz.func7 (by kernel_rfl) rfl rfl rfl rfl (fun st=> ?_)
    (try (apply wO pk;exact rfl));(repeat' (first|(show All _;constructor)|(show Imp _ _;constructor)|(show ImpX _ _ _ _;constructor)|(apply wC pk;(iterate 2 exact rfl))|(apply wE pk;(iterate 2 exact rfl))|(apply wX pk;exact rfl)|(apply wN pk;exact rfl)|(apply wD pk [] [];kernel_rfl;exact rfl;exact rfl)|(apply aC;simp only [zqt,zqf])|(refine aD rfl (fun h=> ?_) (fun h=> ?_)<;>(try simp at h)<;>try (exfalso;omega))|(refine aF ?_;refine ⟨_,_,_,rfl,Wk.refl _,StSub.refl _, ?_,rfl⟩;try rfl)|(apply aK;(iterate 3 exact rfl);(intro _;(first|apply hA|apply hf|apply hr)<;>first|assumption|omega);rotate_left;(iterate 2 exact rfl))|(intros;(try simp only [zql]);omega)))
  |true=>
  rw [g2] at hr hk hd
  rw [if_pos rfl] at hk
  obtain ⟨⟨hr0,hlen⟩,_⟩:=cO.1 g2
  have hfo:=nP g2 hB.1
  have hn:=sQ (s:=s) hlen (z:=(z0,z1))
  have hKl:=oG (s:=s) hB (z0,z1)
  have hG:=rF (s:=s) hlen (z0,z1)
  have hheld:=alL g2 (z0,z1)
  rw [←hG] at hheld
  have hde:∃o:Bs×Int,dQ true s b (z0,z1) ⟨1,1⟩ (bS s b (z0,z1))=o∧o.2=if eQ b (z0,z1)=true then (if oA s b (inR (jN s b (z0,z1)))=true then 0 else 10) else 4:=⟨_,rfl,by
    rw [hG]
    unfold dQ
    rw [if_pos rfl]
    split
    · split<;>rfl
    · rfl⟩
  obtain ⟨o,ho,ho2⟩:=hde
  rw [ho] at hd
  clear ho hG
  have hln:=(hB.1.l (by omega)).2
  generalize jN s b (z0,z1)=K at*
  by_cases hz:eQ b (z0,z1)=true
  rotate_left
  · have hz2:eQ b (z0,z1)=false:=by simpa using hz
    have hK0:K=[]:=List.eq_nil_of_length_eq_zero (hn.2 hz2)
    subst hK0
    rw [if_neg hz] at ho2
    refine aL aH Tryz.func7 (by kernel_rfl) rfl rfl rfl rfl (fun st=> ?_)
    (try (apply wO pk;exact rfl));(repeat' (first|(show All _;constructor)|(show Imp _ _;constructor)|(show ImpX _ _ _ _;constructor)|(apply wC pk;(iterate 2 exact rfl))|(apply wE pk;(iterate 2 exact rfl))|(apply wX pk;exact rfl)|(apply wN pk;exact rfl)|(apply wD pk [] [];kernel_rfl;exact rfl;exact rfl)|(apply aC;simp only [zqt,zqf])|(refine aD rfl (fun h=> ?_) (fun h=> ?_)<;>(try simp at h)<;>try (exfalso;omega))|(refine aF ?_;refine ⟨_,_,_,rfl,Wk.refl _,StSub.refl _, ?_,rfl⟩;try first|rfl|((rw [ho2];rfl);done))|(apply aK;(iterate 3 exact rfl);(intro _;(first|apply hA|apply hf|apply hr|apply hk|apply hd)<;>first|assumption|omega);rotate_left;(iterate 2 exact rfl))|((apply eP pk 0;(iterate 5 exact rfl);(focus repeat' constructor);exact rfl;(intro _;rfl);(intro _;omega);exact rfl))|((apply eP pk 1;(iterate 5 exact rfl);(focus repeat' constructor);exact rfl;(intro _;rfl);(intro _;omega);exact rfl))|(intros;(try simp only [zql]);omega)|((exfalso;simp at*;done))))
  rw [if_pos hz] at ho2
  have hKn:¬K=[]:=fun e=>by
    rw [e] at hn
    rw [hn.1 rfl] at hz;cases hz
  clear hn hz
  generalize oA s b (inR K)=MB at*
  have hfin:(decide (decide (o.2=10)= !MB)&&decide (decide (o.2=0)= !(!MB)))=true:=by rw [ho2];cases MB<;>decide
  have h16:=hfo.f16
  have hreg:=hfo.reg
  refine aL aH Tryz.func7 (by kernel_rfl) rfl rfl rfl rfl (fun st=> ?_)
  focus ((try (apply wO pk;exact rfl));(repeat' (first|(show All _;constructor)|(show Imp _ _;constructor)|(show ImpX _ _ _ _;constructor)|(apply wC pk;(iterate 2 exact rfl))|(apply wE pk;(iterate 2 exact rfl))|(apply wX pk;exact rfl)|(apply wN pk;exact rfl)|(apply wD pk [] [];kernel_rfl;exact rfl;exact rfl)|(apply aC;simp only [zqt,zqf])|(refine aD rfl (fun h=> ?_) (fun h=> ?_)<;>(try simp at h)<;>try (exfalso;omega))|(refine aF ?_;refine ⟨_,_,_,rfl,Wk.refl _,StSub.refl _, ?_,rfl⟩;try rfl)|(apply aK;(iterate 3 exact rfl);(intro _;(first|apply hA|apply hf|apply hr|apply hk|apply hd)<;>first|assumption|omega);rotate_left;(iterate 2 exact rfl))|((apply eP pk 0;(iterate 5 exact rfl);(focus repeat' constructor);exact rfl;(intro _;rfl);(intro _;omega);exact rfl))|((apply eP pk 1;(iterate 5 exact rfl);(focus repeat' constructor);exact rfl;(intro _;rfl);(intro _;omega);exact rfl))|(intros;(try simp only [zql]);omega)|((exfalso;first|exact hKn h|fail)))))
  refine aP (X:={x:Nat×Bool//x.1≤s.length∧x.2=(List.range x.1).any (yG s b (inR K))}) (fun i=>((((((((St.nil 103 st).var 4 27 ((bsC b))).pv 7 (.seq (K.map r2C))).pv 9 ((PV.val (Value.int .i64 (o.2))))).pv 10 ((PV.val (Value.bool (i.1.2))))).pv 53 (.seq (s.map Tb.cells))).pv 54 ((PV.val (Value.int .i64 (((s.map Tb.cells).length:Nat)))))).pv 55 ((PV.val (Value.int .i64 ((i.1.1:Nat))))))) (fun i=>s.length-i.1.1) ⟨(0,false),by simp,by simp⟩ ?_ (fun i=> ?_)
  · ((repeat (first|refine Sub.pv ?_ rfl|refine Sub.var ?_ rfl rfl));exact Sub.nil _ _ _ (StSub.refl _) rfl)
  obtain ⟨⟨i,v⟩,hi,hv⟩:=i
  simp only at hi hv
  dsimp only
  by_cases hend:s.length≤i
  · obtain rfl:i=s.length:=by omega
    have hv:v= !MB:=by rw [hv,←hlen];exact hheld
    subst hv
    (try (apply wO pk;exact rfl));(repeat' (first|(show All _;constructor)|(show Imp _ _;constructor)|(show ImpX _ _ _ _;constructor)|(apply wC pk;(iterate 2 exact rfl))|(apply wE pk;(iterate 2 exact rfl))|(apply wX pk;exact rfl)|(apply wN pk;exact rfl)|(apply wD pk [] [];kernel_rfl;exact rfl;exact rfl)|(apply aC;simp only [zqt,zqf])|(refine aD rfl (fun h=> ?_) (fun h=> ?_)<;>(try simp at h)<;>try (exfalso;omega))|(refine aF ?_;refine ⟨_,_,_,rfl,Wk.refl _,StSub.refl _, ?_,rfl⟩;try first|rfl|((first|exact congrArg (fun x=>PV.val (Value.bool x)) hfin|(simp only [Bool.true_and];exact congrArg (fun x=>PV.val (Value.bool x)) hfin)|(cases MB<;>simp [ho2]<;>decide));done))|(apply aK;(iterate 3 exact rfl);(intro _;apply hA<;>first|assumption|omega);rotate_left;(iterate 2 exact rfl))|(intros;(try simp only [zql]);omega)))
  have his:i<s.length:=by omega
  have hib:i<b.length:=by omega
  have hup:=ahW (f:=yG s b (inR K)) i
  rw [←hv] at hup
  have hreg:=hreg i his
  have h16:=h16 i his
  have hln:=hln _ (List.getElem_mem hib)
  have hTe:yG s b (inR K) i=b[i].lines.any (mT s[i] (inR K) i):=by unfold yG;rw [getElem!_pos s i his,getElem!_pos b i hib]
  rw [getElem!_pos b i hib] at hreg
  focus ((try (apply wO pk;exact rfl));(repeat' (first|(show All _;constructor)|(show Imp _ _;constructor)|(show ImpX _ _ _ _;constructor)|(apply wC pk;(iterate 2 exact rfl))|(apply wE pk;(iterate 2 exact rfl))|(apply wX pk;exact rfl)|(apply wN pk;exact rfl)|(apply wD pk [] [];kernel_rfl;exact rfl;exact rfl)|(apply aC;simp only [zqt,zqf])|(refine aD rfl (fun h=> ?_) (fun h=> ?_)<;>(try simp at h)<;>try (exfalso;omega))|(refine aF ?_;refine ⟨_,_,_,rfl,Wk.refl _,StSub.refl _, ?_,rfl⟩;try rfl)|(apply bC pk;(iterate 6 exact rfl);rotate_left;exact rfl;(intro hw;exact rfl);(intro hw;apply aJ<;>omega);(intro _;exact rfl);exact rfl)|(intros;(try simp only [zql]);omega))))
  refine aP (X:={x:Nat×Bool//x.1≤b[i].lines.length∧x.2=(v||(b[i].lines.take x.1).any (mT s[i] (inR K) i))}) (fun y=>(((((((((((((St.nil 103 st).var 4 27 ((bsC b))).pv 7 (.seq (K.map r2C))).pv 9 ((PV.val (Value.int .i64 (o.2))))).pv 10 ((PV.val (Value.bool (y.1.2))))).pv 11 ((PV.val (Value.int .i64 ((i:Nat)))))).var 12 52 (s[i].cells)).pv 53 (.seq (s.map Tb.cells))).pv 54 ((PV.val (Value.int .i64 (((s.map Tb.cells).length:Nat)))))).pv 55 ((PV.val (Value.int .i64 ((i:Nat)))))).pv 65 (.seq (b[i].lines.map Ln.cells))).pv 66 ((PV.val (Value.int .i64 (((b[i].lines.map Ln.cells).length:Nat)))))).pv 67 ((PV.val (Value.int .i64 ((y.1.1:Nat))))))) (fun y=>b[i].lines.length-y.1.1) ⟨(0,v),by simp,by simp⟩ ?_ (fun y=> ?_)
  · ((repeat (first|refine Sub.pv ?_ rfl|refine Sub.var ?_ rfl rfl));exact Sub.nil _ _ _ (StSub.refl _) rfl)
  obtain ⟨⟨y,w⟩,hy,hw⟩:=y
  simp only at hy hw
  dsimp only
  by_cases hend2:b[i].lines.length≤y
  · rw [List.take_of_length_le hend2,←hTe,←hup] at hw
    (try (apply wO pk;exact rfl));(repeat' (first|(show All _;constructor)|(show Imp _ _;constructor)|(show ImpX _ _ _ _;constructor)|(apply wC pk;(iterate 2 exact rfl))|(apply wE pk;(iterate 2 exact rfl))|(apply wX pk;exact rfl)|(apply wN pk;exact rfl)|(apply wD pk [] [];kernel_rfl;exact rfl;exact rfl)|(apply aC;simp only [zqt,zqf])|(refine aD rfl (fun h=> ?_) (fun h=> ?_)<;>(try simp at h)<;>try (exfalso;omega))|(refine aF ?_;refine ⟨_,_,_,rfl,Wk.refl _,StSub.refl _, ?_,rfl⟩;try rfl)|(apply bC pk;(iterate 6 exact rfl);rotate_left;exact rfl;(intro hw;exact rfl);(intro hw;apply aJ<;>omega);(intro _;exact rfl);exact rfl)|(refine ⟨⟨(i+1,w),by simp only;omega,hw⟩, ?_,by simp only;omega⟩;((repeat (first|refine Sub.pv ?_ rfl|refine Sub.var ?_ rfl rfl));exact Sub.nil _ _ _ (StSub.refl _) rfl))|(intros;(try simp only [zql]);omega)))
  have hyl:y<b[i].lines.length:=by omega
  have hut:=ajF (f:=mT s[i] (inR K) i) hyl
  obtain ⟨l,hle⟩:∃l,b[i].lines[y]=l:=⟨_,rfl⟩
  rw [hle] at hut
  have hgl:(b[i].lines.map Ln.cells)[y]?=some l.cells:=by rw [List.getElem?_map,List.getElem?_eq_getElem hyl,hle];rfl
  have hlm:l∈b[i].lines:=hle▸List.getElem_mem hyl
  have hin:=jT K ((i:Int),l.key) hKl
  have hpt:=oH s[i] l K 0 hKl (by omega) fun f hf=>hreg f hf l hlm
  unfold mT at hut
  generalize inR K ((i:Int),l.key)=A1 at*
  generalize rB s[i] l (inR K) 0=A2 at*
  have hw2:(w||(!A1&&A2))=(v||(b[i].lines.take (y+1)).any (mT s[i] (inR K) i)):=by
    have:(b[i].lines.take (y+1)).any (mT s[i] (inR K) i)=((b[i].lines.take y).any (mT s[i] (inR K) i)||(!A1&&A2)):=hut
    rw [this,hw,Bool.or_assoc]
  (try (apply wO pk;exact rfl));(repeat' (first|(show All _;constructor)|(show Imp _ _;constructor)|(show ImpX _ _ _ _;constructor)|(apply wC pk;(iterate 2 exact rfl))|(apply wE pk;(iterate 2 exact rfl))|(apply wX pk;exact rfl)|(apply wN pk;exact rfl)|(apply wD pk [] [];kernel_rfl;exact rfl;exact rfl)|(apply aC;simp only [zqt,zqf])|(refine aD rfl (fun h=> ?_) (fun h=> ?_)<;>(try simp at h)<;>try (exfalso;omega))|(refine aF ?_;refine ⟨_,_,_,rfl,Wk.refl _,StSub.refl _, ?_,rfl⟩;try rfl)|(apply aK;(iterate 3 exact rfl);(intro _;(first|apply hin|apply hpt)<;>first|assumption|omega);rotate_left;(iterate 2 exact rfl))|(apply bC pk;(iterate 6 exact rfl);rotate_left;exact rfl;(first|((intro hw;exact rfl);(intro hw;apply hgl<;>omega);(intro _;exact rfl))|((intro hw;exact rfl);(intro hw;apply aJ<;>omega);(intro _;exact rfl)));exact rfl)|(refine ⟨⟨(y+1,w||(!A1&&A2)),by simp only;omega,hw2⟩, ?_,by simp only;omega⟩;((dsimp only));((repeat (first|refine Sub.pv ?_ rfl|refine Sub.var ?_ rfl rfl|refine Sub.pv' ?_ rfl (by (first|rfl|(simp;done)))|refine Sub.var' ?_ rfl rfl (by (first|rfl|(simp;done)))));exact Sub.nil _ _ _ (StSub.refl _) rfl))|(intros;(try simp only [zql]);omega)))
end Go.Proofs.YtddmbnddgiebgaaGreatDoor
