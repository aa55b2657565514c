import Derived.Test.YtddmbnddgiebgaaGreatDoorCaNull
set_option linter.unusedSimpArgs false
set_option linter.unusedVariables false
namespace Go.Proofs.YtddmbnddgiebgaaGreatDoor
open Go Go.Abs
attribute [local irreducible] Ev PWp
set_option maxRecDepth 10000
set_option maxHeartbeats 4000000
theorem apJ {t:Tb} {G:R2→Bool} {l:Ln} (h:∀f∈t.foreign,cL G l f=true→f.act=0∨f.act=2):iV t G l= !toB t l G 0:=by
  rw [Bool.eq_iff_iff,Bool.not_eq_true',←Bool.not_eq_true,zB]
  unfold iV
  rw [List.all_eq_true]
  constructor
  · rintro q ⟨f,hf,h1,h2⟩
    have:=q f hf
    rw [h1,h2] at this;cases this
  · intro q f hf
    cases hh:cL G l f with
    |false=>rfl
    |true=>
      rcases h f hf hh with e|e
      · exact absurd ⟨f,hf,hh,e⟩ q
      · rw [e];rfl
theorem alU {t:Tb} {rows:List R2} {l:Ln} (who:Dt) (h:iV t (inR rows) l=true):iH t (inR rows) who l=if toB t l (inR rows) 2=true then vR t rows who l else l:=by
  have h':∀f∈t.foreign,cL (inR rows) l f=jN rows l f:=fun f hf=>by
    have:=List.all_eq_true.1 h f hf
    unfold jN
    cases hh:cL (inR rows) l f with
    |false=>rfl
    |true=>rw [hh] at this;simpa using this.symm
  have h1:acX t (inR rows) l=toB t l (inR rows) 2:=by
    unfold acX toB
    rw [Bool.eq_iff_iff,List.any_eq_true,List.any_eq_true]
    constructor
    · rintro ⟨f,hf,e⟩;exact ⟨f,hf,by have:=h' f hf;rw [e] at this;exact this.symm⟩
    · rintro ⟨f,hf,e⟩;rw [Bool.and_eq_true] at e;exact ⟨f,hf,e.1⟩
  have h2:dO (cL (inR rows) l) t.foreign l.cells_=dO (jN rows l) t.foreign l.cells_:=by
    unfold dO
    congr 1
    funext c x
    have:(t.foreign.any fun f=>decide (f.col=(c:Int))&&cL (inR rows) l f)=t.foreign.any fun f=>decide (f.col=(c:Int))&&jN rows l f:=by
      rw [Bool.eq_iff_iff,List.any_eq_true,List.any_eq_true]
      constructor
      · rintro ⟨f,hf,e⟩;exact ⟨f,hf,by rw [←h' f hf];exact e⟩
      · rintro ⟨f,hf,e⟩;exact ⟨f,hf,by rw [h' f hf];exact e⟩
    rw [this]
  unfold iH vR
  rw [h1,h2]
theorem aoK {s:Sc} {b:Bs} (hFo:FolD s b) (who:Dt) (K:List R2) (hK:K.length<1000000000000) (hA:∀k (h:k<s.length),∀l∈b[k]!.lines,inR K ((k:Int),l.key)=false→∀f∈s[k].foreign,cL (inR K) l f=true→f.act=0∨f.act=2) (z:R2) (hr:PF Tryz.prog 30 [.agg (scC s), .agg (bsC b)] (PV.val (Value.bool (true)))) (hk:PF Tryz.prog 31 [.agg (scC s), .agg (bsC b),(PV.val (Value.int .i64 (z.1))),(PV.val (Value.int .i64 (z.2)))] (.seq (K.map r2C))) (hK0:0<K.length) (st:aM):PC Tryz.prog 12 [.agg (scC s), .agg (bsC b),(PV.val (Value.int .i64 (z.1))),(PV.val (Value.int .i64 (z.2))), .agg who.cells] st (asQ s b who K st):=by
  obtain ⟨⟨hlen,s16,f16,hreg,hlns⟩,ln,hcl,hcols⟩:=hFo
  have hnew:=arA s (by omega)
  have hI:∀k y,(fC s b (inR K) who k y).length≤b[k]!.lines.length:=fun k y=>abV s b (inR K) who k y
  have hKn:¬K=[]:=fun e=>by rw [e] at hK0;simp at hK0
  refine cR aH Tryz.func12 (by kernel_rfl) rfl rfl rfl rfl ?_
  focus ((try (apply wO pk;exact rfl));(repeat' (first|(show All _;constructor)|(show Imp _ _;constructor)|(show ImpX _ _ _ _;constructor)|(apply wC pk;(iterate 2 exact rfl))|(apply wE pk;(iterate 2 exact rfl))|(apply wX pk;exact rfl)|(apply wN pk;exact rfl)|(apply wDx pk;exact rfl;kernel_rfl;exact rfl;exact rfl)|(apply aB;simp only [zqt,zqf])|(refine aD rfl (fun h=> ?_) (fun h=> ?_)<;>(try simp at h)<;>try (exfalso;omega))|((try refine aF ?_);refine ⟨_,_,_,rfl,Wk.refl _,StSub.refl _, ?_⟩)|(apply aN;(iterate 3 exact rfl);(intro _;(first|apply hr|apply hk)<;>first|assumption|omega);rotate_left;(iterate 2 exact rfl))|(apply bZ;(iterate 3 exact rfl);(intro _;(first|apply hr|apply hk)<;>first|assumption|omega);rotate_left;(iterate 2 exact rfl))|(apply ncA;(iterate 3 exact rfl);rotate_left;exact rfl;exact rfl)|(apply ldR pk;exact rfl;exact rfl;rotate_left;exact rfl;(focus ((repeat (first|exact aA _ _ _|assumption|refine (aC (by assumption)).trans ?_));done));exact rfl;exact rfl)|(apply stR pk;exact rfl;exact rfl;(focus ((repeat (first|exact aA _ _ _|assumption|refine (aC (by assumption)).trans ?_));done));exact rfl;exact rfl)|(apply bT;exact rfl;exact rfl;(apply (hnew st)<;>first|exact aA _ _ _|assumption|omega|(focus ((repeat (first|exact aA _ _ _|assumption|refine (aC (by assumption)).trans ?_));done)));(iterate 3 exact rfl);intro _ st' hR;obtain ⟨idT,rfl,hidT,rfl⟩:=hR)|(apply bT;exact rfl;exact rfl;(first|(apply fail_no_spec<;>first|exact aA _ _ _|assumption|omega|(simp only [zqs];omega)|(focus ((repeat (first|exact aA _ _ _|assumption|refine (aC (by assumption)).trans ?_));done))));(iterate 3 exact rfl);intro _ st' hR;(first|subst hR|obtain ⟨rfl,rfl⟩:=hR))|(intros;(try simp only [zql]);omega)|((exfalso;first|exact hKn h|fail)))))
  have hidT0:st idT=none:=hidT
  have hsub:StSub (upd st idT (some (.arr 55 (fG b.length 0 (kK s b (inR K) who))))) (upd st idT (some (.arr 55 ((List.replicate s.length ()).map nT)))):=by rw [uE,hlen];exact StSub.refl _
  refine aO (X:={x:Nat//x≤b.length∧∀k (h:k<b.length),k<x→∀y (h:y<b[k].lines.length),iT s[k]! (inR K) k b[k].lines[y]=true}) (fun i=>((((((((St.nil 116 (upd st idT (some (.arr 55 (fG b.length i.1 (kK s b (inR K) who)))))).var 5 24 ((scC s))).var 6 27 ((bsC b))).var 9 30 (who.cells)).var 10 27 ([.val (.slice none 0 0)])).pv 12 (.seq (K.map r2C))).var 13 27 ([.vec idT 1 0 s.length])).pv 14 ((PV.val (Value.int .i64 ((i.1:Nat))))))) (fun i=>b.length-i.1) ⟨0,by omega,by simp⟩ ?_ (fun i=> ?_)
  · (repeat (first|refine Sub.pv ?_ rfl|refine Sub.var ?_ rfl rfl));exact Sub.nil _ _ _ hsub rfl
  obtain ⟨i,hi,hIv⟩:=i
  dsimp only
  by_cases hend:b.length≤i
  · obtain rfl:i=b.length:=by omega
    have hmay:sV s b (inR K)=true:=by
      unfold sV
      rw [List.all_eq_true]
      intro k hk
      have hk:=List.mem_range.1 hk
      rw [getElem!_pos b k hk,List.all_eq_true]
      intro l hl
      obtain ⟨y,hy,rfl⟩:=List.getElem_of_mem hl
      exact hIv k hk hk y hy
    rw [wR]
    (try (apply wO pk;exact rfl));(repeat' (first|(show All _;constructor)|(show Imp _ _;constructor)|(show ImpX _ _ _ _;constructor)|(apply wC pk;(iterate 2 exact rfl))|(apply wE pk;(iterate 2 exact rfl))|(apply wX pk;exact rfl)|(apply wN pk;exact rfl)|(apply wDx pk;exact rfl;kernel_rfl;exact rfl;exact rfl)|(apply aB;simp only [zqt,zqf])|(refine aD rfl (fun h=> ?_) (fun h=> ?_)<;>(try simp at h)<;>try (exfalso;omega))|((try refine aF ?_);(first|(refine ⟨_,_,_,rfl,Wk.refl _,StSub.refl _, ?_⟩;(exact .inr ⟨hmay,idT,by rw [hlen],aA _ _ _,bP hidT0⟩);done)|(refine ⟨_,_, ?zs,rfl,Wk.refl _, ?zh, ?zr⟩;(case zh=>(refine aG ?_ (by assumption);(repeat refine aG ?_ (by assumption));exact StSub.refl _));(case zr=>(exact .inr ⟨hmay,idT,by rw [hlen],aA _ _ _,bP hidT0⟩)))|refine ⟨_,_,_,rfl,Wk.refl _,StSub.refl _, ?_⟩))|(apply ncA;(iterate 3 exact rfl);rotate_left;exact rfl;exact rfl)|(apply ldR pk;exact rfl;exact rfl;rotate_left;exact rfl;(focus ((repeat (first|exact aA _ _ _|assumption|refine (aC (by assumption)).trans ?_));done));exact rfl;exact rfl)|(apply stR pk;exact rfl;exact rfl;(focus ((repeat (first|exact aA _ _ _|assumption|refine (aC (by assumption)).trans ?_));done));exact rfl;exact rfl)|(intros;(try simp only [zql]);omega)))
  have hib:i<b.length:=by omega
  have his:i<s.length:=by omega
  have hrow:=xA hib (kK s b (inR K) who)
  have hset:=wF (n:=b.length) (k:=i) (kK s b (inR K) who)
  have hrl:=wH b.length i (kK s b (inR K) who)
  have hIu:=fun y h=>agN (s:=s) (b:=b) (G:=inR K) (who:=who) (k:=i) (y:=y) h
  have hIa:=aaC (s:=s) (b:=b) (G:=inR K) (who:=who) (k:=i)
  have hI0:fC s b (inR K) who i 0=[]:=by simp [fC]
  have hIl:=hI i
  have hreg:=hreg i his
  have hAi:=hA i his
  have hln:=ln i hib
  have hcl:=hcl i hib
  have hf16:=f16 i his
  simp only [getElem!_pos b i hib,getElem!_pos s i his] at hIu hIa hIl hreg hAi
  generalize fG b.length i (kK s b (inR K) who)=R at*
  focus ((try (apply wO pk;exact rfl));(repeat' (first|(show All _;constructor)|(show Imp _ _;constructor)|(show ImpX _ _ _ _;constructor)|(apply wC pk;(iterate 2 exact rfl))|(apply wE pk;(iterate 2 exact rfl))|(apply wX pk;exact rfl)|(apply wN pk;exact rfl)|(apply wDx pk;exact rfl;kernel_rfl;exact rfl;exact rfl)|(apply aB;simp only [zqt,zqf])|(refine aD rfl (fun h=> ?_) (fun h=> ?_)<;>(try simp at h)<;>try (exfalso;omega))|((try refine aF ?_);refine ⟨_,_,_,rfl,Wk.refl _,StSub.refl _, ?_⟩)|(apply aW pk;(iterate 6 exact rfl);rotate_left;exact rfl;(intro hw;exact rfl);(intro hw;apply aI<;>omega);(intro _;exact rfl);exact rfl)|(apply ncA;(iterate 3 exact rfl);rotate_left;exact rfl;exact rfl)|(apply ldR pk;exact rfl;exact rfl;rotate_left;exact rfl;(focus ((repeat (first|exact aA _ _ _|assumption|refine (aC (by assumption)).trans ?_));done));exact rfl;exact rfl)|(apply stR pk;exact rfl;exact rfl;(focus ((repeat (first|exact aA _ _ _|assumption|refine (aC (by assumption)).trans ?_));done));exact rfl;exact rfl)|(intros;(try simp only [zql]);omega))))
  refine rG (id:=idT) (k:=i) 43 3 (aA _ _ _) hrow rfl (fun idL hidL=> ?_)
  have hidL1:upd st idT (some (.arr 55 R)) idL=none:=hidL
  have hne:idL≠idT:=fun e=>by rw [e,aA] at hidL1;cases hidL1
  have hidL0:st idL=none:=by rwa [aC hne] at hidL1
  clear hidL hidL1
  have hsub2:StSub (upd (upd st idL (some (.arr 43 ((fC s b (inR K) who i 0).map Ln.cells)))) idT (some (.arr 55 (R.set i [.vec idL 3 0 (fC s b (inR K) who i 0).length])))) (upd (upd (upd st idT (some (.arr 55 R))) idL (some (.arr 43 []))) idT (some (.arr 55 (R.set i [.vec idL 3 0 0])))):=by rw [hI0];exact zD hne
  refine aO (X:={x:Nat×Nat//x.1≤b[i].lines.length∧st x.2=none∧x.2≠idT∧∀y (h:y<b[i].lines.length),y<x.1→iT s[i] (inR K) i b[i].lines[y]=true}) (fun y=>((((((((((St.nil 116 (upd (upd st y.1.2 (some (.arr 43 ((fC s b (inR K) who i y.1.1).map Ln.cells)))) idT (some (.arr 55 (R.set i [.vec y.1.2 3 0 (fC s b (inR K) who i y.1.1).length]))))).var 5 24 ((scC s))).var 6 27 ((bsC b))).var 9 30 (who.cells)).var 10 27 ([.val (.slice none 0 0)])).pv 12 (.seq (K.map r2C))).var 13 27 ([.vec idT 1 0 s.length])).pv 14 ((PV.val (Value.int .i64 ((i:Nat)))))).pv 15 (.seq (b[i].lines.map Ln.cells))).pv 16 ((PV.val (Value.int .i64 ((y.1.1:Nat))))))) (fun y=>b[i].lines.length-y.1.1) ⟨(0,idL),by simp,hidL0,hne,by simp⟩ ?_ (fun y=> ?_)
  · dsimp only
    (repeat (first|refine Sub.pv ?_ rfl|refine Sub.var ?_ rfl rfl));exact Sub.nil _ _ _ hsub2 rfl
  clear hidL0 hne hsub2 hsub
  obtain ⟨⟨y,idL⟩,hy,hidL0,hne,hyI⟩:=y
  dsimp only at hy hidL0 hne hyI
  dsimp only
  have hneT:=Ne.symm hne
  have hgr:(R.set i [.vec idL 3 0 (fC s b (inR K) who i y).length])[i]?=some [.vec idL 3 0 (fC s b (inR K) who i y).length]:=List.getElem?_set_self (by omega)
  have hIy:=hIl y
  by_cases hend2:b[i].lines.length≤y
  · obtain rfl:y=b[i].lines.length:=by omega
    rw [hIa] at hgr⊢
    have hup:∀k (h:k<b.length),k<i+1→∀y (h:y<b[k].lines.length),iT s[k]! (inR K) k b[k].lines[y]=true:=fun k hk hki v hv=>by
      rcases Nat.lt_succ_iff_lt_or_eq.1 hki with q|q
      · exact hIv k hk q v hv
      · subst q;rw [getElem!_pos s k his];exact hyI v hv hv
    refine tL (id:=idT) (idL:=idL) (k:=i) (aA _ _ _) hgr ((aC hne).trans (aA _ _ _)) jQ (zql _) hneT ?_
    rw [List.set_set,hset]
    (try (apply wO pk;exact rfl));(repeat' (first|(show All _;constructor)|(show Imp _ _;constructor)|(show ImpX _ _ _ _;constructor)|(apply wC pk;(iterate 2 exact rfl))|(apply wE pk;(iterate 2 exact rfl))|(apply wX pk;exact rfl)|(apply wN pk;exact rfl)|(apply wDx pk;exact rfl;kernel_rfl;exact rfl;exact rfl)|(apply aB;simp only [zqt,zqf])|(refine aD rfl (fun h=> ?_) (fun h=> ?_)<;>(try simp at h)<;>try (exfalso;omega))|((try refine aF ?_);refine ⟨_,_,_,rfl,Wk.refl _,StSub.refl _, ?_⟩)|(apply aW pk;(iterate 6 exact rfl);rotate_left;exact rfl;(intro hw;exact rfl);(intro hw;apply aI<;>omega);(intro _;exact rfl);exact rfl)|(apply ncA;(iterate 3 exact rfl);rotate_left;exact rfl;exact rfl)|(apply ldR pk;exact rfl;exact rfl;rotate_left;exact rfl;(focus ((repeat (first|exact aA _ _ _|assumption|refine (aC (by assumption)).trans ?_));done));exact rfl;exact rfl)|(apply stR pk;exact rfl;exact rfl;(focus ((repeat (first|exact aA _ _ _|assumption|refine (aC (by assumption)).trans ?_));done));exact rfl;exact rfl)|(refine ⟨⟨i+1,by omega,hup⟩, ?_,by simp only;omega⟩;(first|exact Sub.nil _ _ _ (StSub.refl _) rfl|((repeat (first|refine Sub.pv ?_ rfl|refine Sub.var ?_ rfl rfl));(first|exact Sub.nil _ _ _ (vJ hidL0 hne rfl) rfl|exact Sub.nil _ _ _ (StSub.refl _) rfl|exact Sub.nil _ _ _ (aP (by assumption)) rfl|exact Sub.nil _ _ _ (aJ (by first|rfl|exact aT (by assumption)|((simp only [St.pv,St.put,St.sst,St.setv,St.nil,St.var,aK]);first|done|rfl))) rfl|(refine Sub.nil _ _ _ (aJ ?_) rfl;(simp only [St.pv,St.put,St.sst,St.setv,St.nil,St.var,aK]);(rw [cI (by assumption)]);first|done|rfl)))))|(intros;(try simp only [zql]);omega)))
  have hyl:y<b[i].lines.length:=by omega
  obtain ⟨l,hle⟩:∃l,b[i].lines[y]=l:=⟨_,rfl⟩
  have hlm:l∈b[i].lines:=hle▸List.getElem_mem hyl
  have hgl:(b[i].lines.map Ln.cells)[y]?=some l.cells:=by rw [List.getElem?_map,List.getElem?_eq_getElem hyl,hle];rfl
  have hIu:=hIu y hyl
  rw [hle] at hIu
  have hyU:iT s[i] (inR K) i l=true→∀v (h:v<b[i].lines.length),v<y+1→iT s[i] (inR K) i b[i].lines[v]=true:=fun h v hv hvy=>by
    rcases Nat.lt_succ_iff_lt_or_eq.1 hvy with q|q
    · exact hyI v hv q
    · subst q;rw [hle];exact h
  have hbad:iT s[i] (inR K) i l=false→sV s b (inR K)=false:=fun h=>afL hib hyl (by rw [getElem!_pos s i his,hle];exact h)
  have hin:=mH K ((i:Int),l.key) hK
  have hrg:=fun f hf=>hreg f hf l hlm
  have ht0:=xB s[i] l K 0 hK (by omega) hrg
  have ht2:=xB s[i] l K 2 hK (by omega) hrg
  have hnl:=ahO s[i] l K who hK (by omega) (hcl l hlm).1 (hcl l hlm).2 hrg
  have hAl:=fun h=>apJ (hAi l hlm h)
  have hNl:=fun (h:iV s[i] (inR K) l=true)=>alU (rows:=K) who (t:=s[i]) (l:=l) h
  cases hG:inR K ((i:Int),l.key) with
  |true=>
    rw [hG,if_pos rfl] at hIu
    have hU:=hyU (by unfold iT;rw [hG];rfl)
    rw [hG] at hin
    (try (apply wO pk;exact rfl));(repeat' (first|(show All _;constructor)|(show Imp _ _;constructor)|(show ImpX _ _ _ _;constructor)|(apply wC pk;(iterate 2 exact rfl))|(apply wE pk;(iterate 2 exact rfl))|(apply wX pk;exact rfl)|(apply wN pk;exact rfl)|(apply wDx pk;exact rfl;kernel_rfl;exact rfl;exact rfl)|(apply aB;simp only [zqt,zqf])|(refine aD rfl (fun h=> ?_) (fun h=> ?_)<;>(try simp at h)<;>try (exfalso;omega))|((try refine aF ?_);refine ⟨_,_,_,rfl,Wk.refl _,StSub.refl _, ?_⟩)|(apply aN;(iterate 3 exact rfl);(intro _;apply hin<;>first|assumption|omega);rotate_left;(iterate 2 exact rfl))|(apply bZ;(iterate 3 exact rfl);(intro _;apply hin<;>first|assumption|omega);rotate_left;(iterate 2 exact rfl))|(apply aW pk;(iterate 6 exact rfl);rotate_left;exact rfl;(first|((intro hw;exact rfl);(intro hw;apply hgl<;>omega);(intro _;exact rfl))|((intro hw;exact rfl);(intro hw;apply aI<;>omega);(intro _;exact rfl)));exact rfl)|(apply ncA;(iterate 3 exact rfl);rotate_left;exact rfl;exact rfl)|(apply ldR pk;exact rfl;exact rfl;rotate_left;exact rfl;(focus ((repeat (first|exact aA _ _ _|assumption|refine (aC (by assumption)).trans ?_));done));exact rfl;exact rfl)|(apply stR pk;exact rfl;exact rfl;(focus ((repeat (first|exact aA _ _ _|assumption|refine (aC (by assumption)).trans ?_));done));exact rfl;exact rfl)|(refine ⟨⟨(y+1,idL),by simp only;omega,hidL0,hne,hU⟩, ?_,by simp only;omega⟩;((dsimp only;rw [hIu]));(first|exact Sub.nil _ _ _ (StSub.refl _) rfl|((repeat (first|refine Sub.pv ?_ rfl|refine Sub.var ?_ rfl rfl));(first|exact Sub.nil _ _ _ (StSub.refl _) rfl|exact Sub.nil _ _ _ (aP (by assumption)) rfl|exact Sub.nil _ _ _ (aJ (by first|rfl|exact aT (by assumption)|((simp only [St.pv,St.put,St.sst,St.setv,St.nil,St.var,aK]);first|done|rfl))) rfl|(refine Sub.nil _ _ _ (aJ ?_) rfl;(simp only [St.pv,St.put,St.sst,St.setv,St.nil,St.var,aK]);(rw [cI (by assumption)]);first|done|rfl)))))|(intros;(try simp only [zql]);omega)))
  |false=>
    rw [hG,if_neg (by simp)] at hIu
    have hAl:=hAl hG
    rw [hG] at hin
    cases hT0:toB s[i] l (inR K) 0 with
    |true=>
      rw [hT0] at ht0 hAl
      have hb:=hbad (by unfold iT;rw [hG,hAl];rfl)
      (try (apply wO pk;exact rfl));(repeat' (first|(apply wD pk [] [];kernel_rfl;exact rfl;exact rfl)|(show All _;constructor)|(show Imp _ _;constructor)|(show ImpX _ _ _ _;constructor)|(apply wC pk;(iterate 2 exact rfl))|(apply wE pk;(iterate 2 exact rfl))|(apply wX pk;exact rfl)|(apply wN pk;exact rfl)|(apply wDx pk;exact rfl;kernel_rfl;exact rfl;exact rfl)|(apply aB;simp only [zqt,zqf])|(refine aD rfl (fun h=> ?_) (fun h=> ?_)<;>(try simp at h)<;>try (exfalso;omega))|((try refine aF ?_);(first|(refine ⟨_,_,_,rfl,Wk.refl _,StSub.refl _, ?_⟩;(exact .inl ⟨hb,rfl,jY hidL0 hidT0⟩);done)|(refine ⟨_,_, ?zs,rfl,Wk.refl _, ?zh, ?zr⟩;(case zh=>(refine aG ?_ (by assumption);(repeat refine aG ?_ (by assumption));exact StSub.refl _));(case zr=>(exact .inl ⟨hb,rfl,jY hidL0 hidT0⟩)))|refine ⟨_,_,_,rfl,Wk.refl _,StSub.refl _, ?_⟩))|(apply aN;(iterate 3 exact rfl);(intro _;(first|apply hin|apply ht0)<;>first|assumption|omega);rotate_left;(iterate 2 exact rfl))|(apply bZ;(iterate 3 exact rfl);(intro _;(first|apply hin|apply ht0)<;>first|assumption|omega);rotate_left;(iterate 2 exact rfl))|(apply aW pk;(iterate 6 exact rfl);rotate_left;exact rfl;(first|((intro hw;exact rfl);(intro hw;apply hgl<;>omega);(intro _;exact rfl))|((intro hw;exact rfl);(intro hw;apply aI<;>omega);(intro _;exact rfl)));exact rfl)|(apply ncA;(iterate 3 exact rfl);rotate_left;exact rfl;exact rfl)|(apply ldR pk;exact rfl;exact rfl;rotate_left;exact rfl;(focus ((repeat (first|exact aA _ _ _|assumption|refine (aC (by assumption)).trans ?_));done));exact rfl;exact rfl)|(apply stR pk;exact rfl;exact rfl;(focus ((repeat (first|exact aA _ _ _|assumption|refine (aC (by assumption)).trans ?_));done));exact rfl;exact rfl)|(intros;(try simp only [zql]);omega)))
    |false=>
      rw [hT0] at ht0 hAl
      have hU:=hyU (by unfold iT;rw [hG,hAl];rfl)
      rw [hNl hAl] at hIu
      have hlenU:(fC s b (inR K) who i (y+1)).length=(fC s b (inR K) who i y).length+1:=by rw [hIu,List.length_append];rfl
      cases hT2:toB s[i] l (inR K) 2 with
      |true=>
        rw [hT2] at ht2 hIu
        rw [if_pos rfl] at hIu
        (try (apply wO pk;exact rfl));(repeat' (first|((apply wD (id:=20) pk [11,14] [8];kernel_rfl;exact rfl;exact rfl))|((apply wD (id:=15) pk [] [];kernel_rfl;exact rfl;exact rfl))|((apply wD (id:=18) pk [] [];kernel_rfl;exact rfl;exact rfl))|((apply wD (id:=19) pk [] [];kernel_rfl;exact rfl;exact rfl))|(show All _;constructor)|(show Imp _ _;constructor)|(show ImpX _ _ _ _;constructor)|(apply wC pk;(iterate 2 exact rfl))|(apply wE pk;(iterate 2 exact rfl))|(apply wX pk;exact rfl)|(apply wN pk;exact rfl)|(apply wDx pk;exact rfl;kernel_rfl;exact rfl;exact rfl)|(apply aB;simp only [zqt,zqf])|(refine aD rfl (fun h=> ?_) (fun h=> ?_)<;>(try simp at h)<;>try (exfalso;omega))|((try refine aF ?_);refine ⟨_,_,_,rfl,Wk.refl _,StSub.refl _, ?_⟩)|(apply aN;(iterate 3 exact rfl);(intro _;(first|apply hin|apply ht0|apply ht2|apply hnl)<;>first|assumption|omega);rotate_left;(iterate 2 exact rfl))|(apply bZ;(iterate 3 exact rfl);(intro _;(first|apply hin|apply ht0|apply ht2|apply hnl)<;>first|assumption|omega);rotate_left;(iterate 2 exact rfl))|(apply aW pk;(iterate 6 exact rfl);rotate_left;exact rfl;(first|((intro hw;exact rfl);(intro hw;apply hgl<;>omega);(intro _;exact rfl))|((intro hw;exact rfl);(intro hw;apply aI<;>omega);(intro _;exact rfl)));exact rfl)|(apply ncA;(iterate 3 exact rfl);rotate_left;exact rfl;exact rfl)|(apply ldR pk;exact rfl;exact rfl;rotate_left;exact rfl;(focus ((repeat (first|exact aA _ _ _|assumption|refine (aC (by assumption)).trans ?_));done));exact rfl;exact rfl)|(apply stR pk;exact rfl;exact rfl;(focus ((repeat (first|exact aA _ _ _|assumption|refine (aC (by assumption)).trans ?_));done));exact rfl;exact rfl)|(apply apV pk (f:=Ln.cells) [vR s[i] K who l] 56;(iterate 9 exact rfl);(focus ((repeat (first|exact aA _ _ _|assumption|refine (aC (by assumption)).trans ?_));done));(first|omega|assumption|(focus (simp;done))|(focus (simp;omega))|(focus (simp at*;omega)));exact fun _=>rfl;exact fun _=>rfl;exact gH;(first|omega|assumption|(focus (simp;done))|(focus (simp;omega))|(focus (simp at*;omega)));(first|omega|assumption|(focus (simp;done))|(focus (simp;omega))|(focus (simp at*;omega)));exact rfl;intro id' hid')|(apply ap0 pk (f:=Ln.cells) [vR s[i] K who l] 56;(iterate 10 exact rfl);exact fun _=>rfl;exact fun _=>rfl;exact gH;(first|omega|assumption|(focus (simp;done))|(focus (simp;omega))|(focus (simp at*;omega)));(first|omega|assumption|(focus (simp;done))|(focus (simp;omega))|(focus (simp at*;omega)));exact rfl;intro id' hid')|(apply ixA pk;(iterate 5 exact rfl);rotate_left;exact rfl;(intro hw;(first|exact (show _=((i:Nat):Int) from by omega)|(simp [gw] at hw;first|exact (show _=((i:Nat):Int) from by omega)|(refine (show _=((0:Nat):Int) from ?_);omega))|exact rfl));(intro hw;(first|omega|(focus (simp [gw] at hw;done))|(simp [gw] at hw;omega)|(simp only [zqs];omega)));exact rfl;(first|exact Nat.zero_add _|exact rfl))|(apply ldA pk Ln.elem;exact rfl;exact rfl;rotate_left;exact rfl;(focus ((repeat (first|exact aA _ _ _|assumption|refine (aC (by assumption)).trans ?_));done));(intro hw;(first|omega|(focus (simp [gw] at hw;done))|(simp [gw] at hw;omega)|(simp only [zqs];omega)));exact rfl)|(apply stA pk Ln.elem;(iterate 3 exact rfl);(focus ((repeat (first|exact aA _ _ _|assumption|refine (aC (by assumption)).trans ?_));done));(first|omega|(simp only [zqs];omega));exact rfl)|((apply ldX pk;exact rfl;exact rfl;rotate_left;exact rfl;exact aA _ _ _;exact rfl;exact hgr;exact rfl;exact rfl))|((have hq:=dY hid';apply stX pk;exact rfl;exact rfl;exact (aC hq.1).trans ((aC hneT).trans (aA _ _ _));exact rfl;exact hgr;exact rfl;exact rfl))|(refine ⟨⟨(y+1,id'),by simp only;omega,(dY hid').2,Ne.symm (dY hid').1,hU⟩, ?_,by simp only;omega⟩;((dsimp only));(first|exact Sub.nil _ _ _ (StSub.refl _) rfl|((repeat (first|refine Sub.pv ?_ rfl|refine Sub.var ?_ rfl rfl));(first|exact Sub.nil _ _ _ (oF hidL0 hne (by rw [hIu]) (by rw [List.set_set,hlenU];rfl)) rfl|exact Sub.nil _ _ _ (StSub.refl _) rfl|exact Sub.nil _ _ _ (aP (by assumption)) rfl|exact Sub.nil _ _ _ (aJ (by first|rfl|exact aT (by assumption)|((simp only [St.pv,St.put,St.sst,St.setv,St.nil,St.var,aK]);first|done|rfl))) rfl|(refine Sub.nil _ _ _ (aJ ?_) rfl;(simp only [St.pv,St.put,St.sst,St.setv,St.nil,St.var,aK]);(rw [cI (by assumption)]);first|done|rfl)))))|(intros;(try simp only [zql]);omega)))
      |false=>
        rw [hT2] at ht2 hIu
        rw [if_neg (by simp)] at hIu
        (try (apply wO pk;exact rfl));(repeat' (first|((apply wD (id:=20) pk [11,14] [8];kernel_rfl;exact rfl;exact rfl))|((apply wD (id:=15) pk [] [];kernel_rfl;exact rfl;exact rfl))|((apply wD (id:=18) pk [] [];kernel_rfl;exact rfl;exact rfl))|(show All _;constructor)|(show Imp _ _;constructor)|(show ImpX _ _ _ _;constructor)|(apply wC pk;(iterate 2 exact rfl))|(apply wE pk;(iterate 2 exact rfl))|(apply wX pk;exact rfl)|(apply wN pk;exact rfl)|(apply wDx pk;exact rfl;kernel_rfl;exact rfl;exact rfl)|(apply aB;simp only [zqt,zqf])|(refine aD rfl (fun h=> ?_) (fun h=> ?_)<;>(try simp at h)<;>try (exfalso;omega))|((try refine aF ?_);refine ⟨_,_,_,rfl,Wk.refl _,StSub.refl _, ?_⟩)|(apply aN;(iterate 3 exact rfl);(intro _;(first|apply hin|apply ht0|apply ht2)<;>first|assumption|omega);rotate_left;(iterate 2 exact rfl))|(apply bZ;(iterate 3 exact rfl);(intro _;(first|apply hin|apply ht0|apply ht2)<;>first|assumption|omega);rotate_left;(iterate 2 exact rfl))|(apply aW pk;(iterate 6 exact rfl);rotate_left;exact rfl;(first|((intro hw;exact rfl);(intro hw;apply hgl<;>omega);(intro _;exact rfl))|((intro hw;exact rfl);(intro hw;apply aI<;>omega);(intro _;exact rfl)));exact rfl)|(apply ncA;(iterate 3 exact rfl);rotate_left;exact rfl;exact rfl)|(apply ldR pk;exact rfl;exact rfl;rotate_left;exact rfl;(focus ((repeat (first|exact aA _ _ _|assumption|refine (aC (by assumption)).trans ?_));done));exact rfl;exact rfl)|(apply stR pk;exact rfl;exact rfl;(focus ((repeat (first|exact aA _ _ _|assumption|refine (aC (by assumption)).trans ?_));done));exact rfl;exact rfl)|(apply apV pk (f:=Ln.cells) [l] 56;(iterate 9 exact rfl);(focus ((repeat (first|exact aA _ _ _|assumption|refine (aC (by assumption)).trans ?_));done));(first|omega|assumption|(focus (simp;done))|(focus (simp;omega))|(focus (simp at*;omega)));exact fun _=>rfl;exact fun _=>rfl;exact gH;(first|omega|assumption|(focus (simp;done))|(focus (simp;omega))|(focus (simp at*;omega)));(first|omega|assumption|(focus (simp;done))|(focus (simp;omega))|(focus (simp at*;omega)));exact rfl;intro id' hid')|(apply ap0 pk (f:=Ln.cells) [l] 56;(iterate 10 exact rfl);exact fun _=>rfl;exact fun _=>rfl;exact gH;(first|omega|assumption|(focus (simp;done))|(focus (simp;omega))|(focus (simp at*;omega)));(first|omega|assumption|(focus (simp;done))|(focus (simp;omega))|(focus (simp at*;omega)));exact rfl;intro id' hid')|(apply ixA pk;(iterate 5 exact rfl);rotate_left;exact rfl;(intro hw;(first|exact (show _=((i:Nat):Int) from by omega)|(simp [gw] at hw;first|exact (show _=((i:Nat):Int) from by omega)|(refine (show _=((0:Nat):Int) from ?_);omega))|exact rfl));(intro hw;(first|omega|(focus (simp [gw] at hw;done))|(simp [gw] at hw;omega)|(simp only [zqs];omega)));exact rfl;(first|exact Nat.zero_add _|exact rfl))|(apply ldA pk Ln.elem;exact rfl;exact rfl;rotate_left;exact rfl;(focus ((repeat (first|exact aA _ _ _|assumption|refine (aC (by assumption)).trans ?_));done));(intro hw;(first|omega|(focus (simp [gw] at hw;done))|(simp [gw] at hw;omega)|(simp only [zqs];omega)));exact rfl)|(apply stA pk Ln.elem;(iterate 3 exact rfl);(focus ((repeat (first|exact aA _ _ _|assumption|refine (aC (by assumption)).trans ?_));done));(first|omega|(simp only [zqs];omega));exact rfl)|((apply ldX pk;exact rfl;exact rfl;rotate_left;exact rfl;exact aA _ _ _;exact rfl;exact hgr;exact rfl;exact rfl))|((have hq:=dY hid';apply stX pk;exact rfl;exact rfl;exact (aC hq.1).trans ((aC hneT).trans (aA _ _ _));exact rfl;exact hgr;exact rfl;exact rfl))|(refine ⟨⟨(y+1,id'),by simp only;omega,(dY hid').2,Ne.symm (dY hid').1,hU⟩, ?_,by simp only;omega⟩;((dsimp only));(first|exact Sub.nil _ _ _ (StSub.refl _) rfl|((repeat (first|refine Sub.pv ?_ rfl|refine Sub.var ?_ rfl rfl));(first|exact Sub.nil _ _ _ (oF hidL0 hne (by rw [hIu]) (by rw [List.set_set,hlenU];rfl)) rfl|exact Sub.nil _ _ _ (StSub.refl _) rfl|exact Sub.nil _ _ _ (aP (by assumption)) rfl|exact Sub.nil _ _ _ (aJ (by first|rfl|exact aT (by assumption)|((simp only [St.pv,St.put,St.sst,St.setv,St.nil,St.var,aK]);first|done|rfl))) rfl|(refine Sub.nil _ _ _ (aJ ?_) rfl;(simp only [St.pv,St.put,St.sst,St.setv,St.nil,St.var,aK]);(rw [cI (by assumption)]);first|done|rfl)))))|(intros;(try simp only [zql]);omega)))
end Go.Proofs.YtddmbnddgiebgaaGreatDoor
