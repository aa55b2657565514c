import Derived.Test.YtddmbnddgiebgaaGreatDoorCaDelS
set_option linter.unusedSimpArgs false
set_option linter.unusedVariables false
namespace Go.Proofs.YtddmbnddgiebgaaGreatDoor
open Go Go.Abs
def fS (t:Tb) (G:R2→Bool) (l:Ln) (c:Int):Bool:=t.foreign.any fun f=>decide (f.col=c)&&bL G l f
theorem fG {t:Tb} {G:R2→Bool} {l:Ln} {c:Int}:fS t G l c=true↔∃f∈t.foreign,f.col=c∧bL G l f=true:=by
  unfold fS
  rw [List.any_eq_true]
  simp only [Bool.and_eq_true,decide_eq_true_eq]
theorem kH {t:Tb} {G:R2→Bool} {l:Ln}:iW t G l=true↔∃f∈t.foreign,bL G l f=true:=by
  unfold iW
  rw [List.any_eq_true]
theorem ajD {t:Tb} {G:R2→Bool} {l:Ln} {bys:List Dt} (c:Int):ptP ⟨l.key,cY (bL G l) t.foreign l.cells_,bys⟩ c=if fS t G l c=true then none else ptP l c:=by
  by_cases hc:0≤c∧c<l.cells_.length
  · obtain ⟨j,rfl⟩:∃j:Nat,c=j:=⟨c.toNat,by omega⟩
    have hj:j<l.cells_.length:=by omega
    have hj2:j<(cY (bL G l) t.foreign l.cells_).length:=by rw [cF];exact hj
    rw [oV hj,oV (l:=⟨l.key,cY (bL G l) t.foreign l.cells_,bys⟩) hj2]
    show (if (cY (bL G l) t.foreign l.cells_)[j].val.kind=1 then some (cY (bL G l) t.foreign l.cells_)[j].val.n else none)=_
    rw [fI hj]
    unfold fS
    by_cases h:(t.foreign.any fun f=>decide (f.col=(j:Int))&&bL G l f)=true
    · rw [if_pos h,if_pos h];rfl
    · rw [if_neg h,if_neg h]
  · rw [mK hc,mK]
    · split<;>rfl
    · show ¬(0≤c∧c<(cY (bL G l) t.foreign l.cells_).length)
      rwa [cF]
theorem rC {t:Tb} {G:R2→Bool} {who:Dt} {l:Ln} (c:Int):ptP (bT t G who l) c=if fS t G l c=true then none else ptP l c:=by
  unfold bT
  by_cases h:iW t G l=true
  · rw [if_pos h,ajD]
  · rw [if_neg h,if_neg]
    intro q
    obtain ⟨f,hf,_,hh⟩:=fG.1 q
    exact h (kH.2 ⟨f,hf,hh⟩)
theorem lB (t:Tb) (G:R2→Bool) (who:Dt) (l:Ln):(bT t G who l).key=l.key:=by unfold bT;split<;>rfl
theorem lS {s:Sc} {b:Bs} {G:R2→Bool} {who:Dt} {k:Nat} (hk:k<b.length):(eT s b G who)[k]!.lines=kP s b G who k:=by
  have h:k<(eT s b G who).length:=by simpa [eT] using hk
  rw [getElem!_pos _ k h]
  simp [eT]
theorem fL (s:Sc) (b:Bs) (G:R2→Bool) (who:Dt):(eT s b G who).length=b.length:=by simp [eT]
theorem nN {s:Sc} {b:Bs} {G:R2→Bool} {who:Dt} {k:Nat} {x:Ln}:x∈kP s b G who k↔∃l∈b[k]!.lines,G ((k:Int),l.key)=false∧x=bT s[k]! G who l:=by
  unfold kP
  simp only [List.mem_map,List.mem_filter,Bool.not_eq_true']
  exact ⟨fun ⟨l,⟨h1,h2⟩,e⟩=>⟨l,h1,h2,e.symm⟩,fun ⟨l,h1,h2,e⟩=>⟨l,⟨h1,h2⟩,e.symm⟩⟩
section
variable {s:Sc} {b:Bs} {G:R2→Bool} {who:Dt}
theorem aeD {u v:R2} (h:chB s (eT s b G who) u v):chB s b u v∧G v=false:=by
  obtain ⟨k,hk,f,hf,x,hx,h1,h2,h3,rfl⟩:=h
  rw [fL] at hk
  rw [lS hk] at hx
  obtain ⟨l,hl,hg,rfl⟩:=nN.1 hx
  rw [rC] at h3
  split at h3
  · cases h3
  · rw [lB]
    exact ⟨⟨k,hk,f,hf,l,hl,h1,h2,h3,rfl⟩,hg⟩
theorem ahH {r:R2} (h:r∈bM (eT s b G who)):r∈bM b∧G r=false:=by
  obtain ⟨k,hk,x,hx,rfl⟩:=eH.1 h
  rw [fL] at hk
  rw [lS hk] at hx
  obtain ⟨l,hl,hg,rfl⟩:=nN.1 hx
  rw [lB]
  exact ⟨eH.2 ⟨k,hk,l,hl,rfl⟩,hg⟩
theorem afP {z y:R2} (hz:G z=false) (h:Reach s (eT s b G who) z y):Reach s b z y∧G y=false:=by
  induction h with
  |refl=>exact ⟨.refl,hz⟩
  |step _ c ih=>exact ⟨.step ih.1 (aeD c).1,(aeD c).2⟩
def arS (s:Sc):Prop:=∀k (h:k<s.length),∀f∈s[k].foreign,∀f'∈s[k].foreign,f.col=f'.col→f=f'
theorem abA (hb:b.length=s.length) (hC:arS s) (hcl:∀u v,chB s b u v→G u=true→G v=true) {z y:R2} (h:Reach s b z y):G y=true∨Reach s (eT s b G who) z y:=by
  induction h with
  |refl=>exact .inr .refl
  | @step y c _ ch ih=>
    rcases ih with q|q
    · exact .inl (hcl _ _ ch q)
    · cases hc:G c with
      |true=>exact .inl rfl
      |false=>
        cases hy:G y with
        |true=>rw [hcl _ _ ch hy] at hc;cases hc
        |false=>
          right
          obtain ⟨k,hk,f,hf,l,hl,h1,h2,h3,rfl⟩:=ch
          have hks:k<s.length:=by omega
          have e:y=(f.table,y.2):=by rw [h1]
          refine .step q ⟨k,by rw [fL];exact hk,f,hf,bT s[k]! G who l,by rw [lS hk];exact nN.2 ⟨l,hl,hc,rfl⟩,h1,h2, ?_,by rw [lB]⟩
          rw [rC,if_neg,h3]
          intro w
          obtain ⟨f',hf',w1,w2⟩:=fG.1 w
          rw [getElem!_pos s k hks] at hf hf'
          have:=hC k hks f' hf' f hf w1
          subst this
          rw [lI h3,←e,hy] at w2;cases w2
end
theorem tV {a c:Ln} (d:Dt) (h:a.by_=c.by_):(bW a d).by_=(bW c d).by_:=by
  unfold bW
  rw [h]
  split<;>simp [h]
theorem akR (a:Ln) (d:Dt):d∈(bW a d).by_:=by
  unfold bW
  split
  · assumption
  · show d∈bZ a.by_ (iL a.by_ d) [d]
    unfold bZ
    simp
theorem afO (a:Ln) (d:Dt):(bW (bW a d) d).by_=(bW a d).by_:=by
  have:=akR a d
  show (if d∈(bW a d).by_ then bW a d else _).by_=_
  rw [if_pos this]
theorem agS {t:Tb} {G0 G1 Gx:R2→Bool} {who:Dt} {l:Ln} (hC:∀f∈t.foreign,∀f'∈t.foreign,f.col=f'.col→f=f') (hx:∀r,Gx r=(G1 r&& !G0 r)):bT t Gx who (bT t G0 who l)=bT t (fun r=>G0 r||G1 r) who l:=by
  have hxl:∀f,bL Gx l f=(bL G1 l f&& !bL G0 l f):=fun f=>by
    unfold bL
    cases ptP l f.col with
    |none=>rfl
    |some k=>exact hx _
  have h01:∀f,bL (fun r=>G0 r||G1 r) l f=(bL G0 l f||bL G1 l f):=fun f=>by
    unfold bL
    cases ptP l f.col<;>rfl
  have hh:∀f∈t.foreign,bL Gx (bT t G0 who l) f=bL Gx l f:=fun f hf=>by
    have:bL Gx (bT t G0 who l) f=if fS t G0 l f.col=true then false else bL Gx l f:=by
      unfold bL
      rw [rC]
      by_cases w:fS t G0 l f.col=true
      · rw [if_pos w,if_pos w]
      · rw [if_neg w,if_neg w]
    rw [this]
    by_cases w:fS t G0 l f.col=true
    · rw [if_pos w]
      obtain ⟨f',hf',w1,w2⟩:=fG.1 w
      have:=hC f' hf' f hf w1
      subst this
      rw [hxl,w2];simp
    · rw [if_neg w]
  have hany:iW t (fun r=>G0 r||G1 r) l=(iW t G0 l||iW t Gx (bT t G0 who l)):=by
    rw [Bool.eq_iff_iff,Bool.or_eq_true,kH,kH,kH]
    constructor
    · rintro ⟨f,hf,e⟩
      rw [h01] at e
      cases e0:bL G0 l f with
      |true=>exact .inl ⟨f,hf,e0⟩
      |false=>rw [e0,Bool.false_or] at e;exact .inr ⟨f,hf,by rw [hh f hf,hxl,e,e0];rfl⟩
    · rintro (⟨f,hf,e⟩|⟨f,hf,e⟩)
      · exact ⟨f,hf,by rw [h01,e];rfl⟩
      · rw [hh f hf,hxl,Bool.and_eq_true] at e
        exact ⟨f,hf,by rw [h01,e.1];simp⟩
  have hcol:∀c:Int,fS t (fun r=>G0 r||G1 r) l c=(fS t G0 l c||t.foreign.any fun f=>decide (f.col=c)&&bL Gx (bT t G0 who l) f):=fun c=>by
    rw [Bool.eq_iff_iff,Bool.or_eq_true,fG,fG,List.any_eq_true]
    simp only [Bool.and_eq_true,decide_eq_true_eq]
    constructor
    · rintro ⟨f,hf,e1,e⟩
      rw [h01] at e
      cases e0:bL G0 l f with
      |true=>exact .inl ⟨f,hf,e1,e0⟩
      |false=>rw [e0,Bool.false_or] at e;exact .inr ⟨f,hf,e1,by rw [hh f hf,hxl,e,e0];rfl⟩
    · rintro (⟨f,hf,e1,e⟩|⟨f,hf,e1,e⟩)
      · exact ⟨f,hf,e1,by rw [h01,e];rfl⟩
      · rw [hh f hf,hxl,Bool.and_eq_true] at e
        exact ⟨f,hf,e1,by rw [h01,e.1];simp⟩
  have hnul:∀cs:List Cl,cs.length=l.cells_.length→cs=(if iW t G0 l=true then cY (bL G0 l) t.foreign l.cells_ else l.cells_)→cY (bL Gx (bT t G0 who l)) t.foreign cs=cY (bL (fun r=>G0 r||G1 r) l) t.foreign l.cells_:=fun cs hcs e=>by
    refine List.ext_getElem (by rw [cF,cF,hcs]) fun j h1 h2=> ?_
    rw [cF] at h1 h2
    rw [fI h1,fI h2]
    have hc:=hcol j
    unfold fS at hc
    rw [hc]
    have hcj:cs[j]=if (t.foreign.any fun f=>decide (f.col=(j:Int))&&bL G0 l f)=true then Cl.zero else l.cells_[j]:=by
      by_cases ha:iW t G0 l=true
      · rw [if_pos ha] at e
        subst e
        exact fI h2
      · rw [if_neg ha] at e
        subst e
        rw [if_neg]
        intro q
        obtain ⟨f,hf,_,w⟩:=fG.1 (show fS t G0 l j=true from q)
        exact ha (kH.2 ⟨f,hf,w⟩)
    rw [hcj]
    cases (t.foreign.any fun f=>decide (f.col=(j:Int))&&bL Gx (bT t G0 who l) f)<;>cases (t.foreign.any fun f=>decide (f.col=(j:Int))&&bL G0 l f)<;>simp
  have hcells:(bT t G0 who l).cells_=(if iW t G0 l=true then cY (bL G0 l) t.foreign l.cells_ else l.cells_):=by
    unfold bT
    split<;>rfl
  have hclen:(bT t G0 who l).cells_.length=l.cells_.length:=by
    rw [hcells]
    split
    · rw [cF]
    · rfl
  have hby:(bT t G0 who l).by_=if iW t G0 l=true then (bW l who).by_ else l.by_:=by
    unfold bT
    split<;>rfl
  by_cases hax:iW t Gx (bT t G0 who l)=true
  · rw [show bT t Gx who (bT t G0 who l)=⟨(bT t G0 who l).key,cY (bL Gx (bT t G0 who l)) t.foreign (bT t G0 who l).cells_,(bW (bT t G0 who l) who).by_⟩ from if_pos hax,hnul _ hclen hcells,lB]
    rw [show bT t (fun r=>G0 r||G1 r) who l=⟨l.key,cY (bL (fun r=>G0 r||G1 r) l) t.foreign l.cells_,(bW l who).by_⟩ from if_pos (by rw [hany,hax,Bool.or_true])]
    congr 1
    by_cases ha:iW t G0 l=true
    · rw [if_pos ha] at hby
      rw [tV who (c:=bW l who) hby,afO]
    · rw [if_neg ha] at hby
      exact tV who hby
  · rw [show bT t Gx who (bT t G0 who l)=bT t G0 who l from if_neg hax]
    have hn:=hnul _ hclen hcells
    by_cases ha:iW t G0 l=true
    · rw [show bT t (fun r=>G0 r||G1 r) who l=⟨l.key,cY (bL (fun r=>G0 r||G1 r) l) t.foreign l.cells_,(bW l who).by_⟩ from if_pos (by rw [hany,ha,Bool.true_or]),←hn,adH (by simpa [iW] using hax),hcells,if_pos ha]
      exact if_pos ha
    · rw [show bT t (fun r=>G0 r||G1 r) who l=l from if_neg (by rw [hany];simp [ha,hax])]
      exact if_neg ha
theorem adB {s:Sc} {b:Bs} {who:Dt} {G0 G1 Gx:R2→Bool} (hb:b.length=s.length) (hC:arS s) (hx:∀r,Gx r=(G1 r&& !G0 r)):eT s (eT s b G0 who) Gx who=eT s b (fun r=>G0 r||G1 r) who:=by
  refine List.ext_getElem (by rw [fL,fL,fL]) fun k h1 h2=> ?_
  rw [fL] at h1 h2
  rw [fL] at h1
  have e:∀(b':Bs) (G:R2→Bool) (h:k<(eT s b' G who).length),(eT s b' G who)[k]=⟨kP s b' G who k⟩:=fun b' G h=>by simp [eT]
  rw [e,e]
  congr 1
  unfold kP
  rw [lS h2]
  unfold kP
  rw [List.filter_map,List.map_map,List.filter_filter]
  have hks:k<s.length:=by omega
  have ef:(b[k]!.lines.filter fun a=>((fun l=> !Gx ((k:Int),l.key))∘bT s[k]! G0 who) a&& !G0 ((k:Int),a.key))=b[k]!.lines.filter fun l=> !(G0 ((k:Int),l.key)||G1 ((k:Int),l.key)):=by
    congr 1
    funext l
    simp only [Function.comp,lB,hx]
    cases G0 ((k:Int),l.key)<;>cases G1 ((k:Int),l.key)<;>rfl
  rw [ef]
  refine List.map_congr_left fun l _=> ?_
  exact agS (by rw [getElem!_pos s k hks];exact hC k hks) hx
theorem qK {rb:Bool} {s:Sc} {b:Bs} {z:R2} {who:Dt} {M:List R2} (h:(dU rb s b z who M).2=0):rb=true∧eV b z=true∧mX s b (inR M)=true∧(dU rb s b z who M).1=eT s b (inR M) who:=by
  unfold dU at h⊢
  cases rb with
  |false=>simp at h
  |true=>
    rw [if_pos rfl] at h⊢
    by_cases h1:eV b z=true
    · rw [if_pos h1] at h⊢
      by_cases h2:mX s b (inR M)=true
      · rw [if_pos h2];exact ⟨rfl,h1,h2,rfl⟩
      · rw [if_neg h2] at h;simp at h
    · rw [if_neg h1] at h;simp at h
theorem agH {tx:Cl→Int} {s:Sc} {b:Bs} {z0 z1:R2} {who:Dt} (hg:bO tx s b=true) (h0:eV b z0=true) (h1:eV b z1=true) {x y:Bs} (hx:x=eT s b (inR (bR s b z0)) who) (hy:y=eT s b (inR (bR s b z1)) who) (hx1:eV x z1=true) (hy0:eV y z0=true):eT s x (inR (bR s x z1)) who=eT s y (inR (bR s y z0)) who:=by
  obtain ⟨⟨hr,hb⟩,_⟩:=eF.1 hg
  have hC:arS s:=fun k hk f hf f' hf' e=>by
    obtain ⟨i,hi,rfl⟩:=List.getElem_of_mem hf
    obtain ⟨j,hj,rfl⟩:=List.getElem_of_mem hf'
    have:=akQ hr hk i j hi hj e
    subst this;rfl
  have hcl:∀z u v,chB s b u v→inR (bR s b z) u=true→inR (bR s b z) v=true:=fun z u v hc hu=>by
    obtain ⟨q1,q2⟩:=(lH hb).1 hu
    exact (lH hb).2 ⟨q1, .step q2 hc⟩
  have key:∀z z' (x:Bs),eV b z'=true→x=eT s b (inR (bR s b z)) who→eV x z'=true→∀r,inR (bR s x z') r=(inR (bR s b z') r&& !inR (bR s b z) r):=fun z z' x hz' hx hxz r=>by
    have hxl:x.length=s.length:=by rw [hx,fL];exact hb
    have hrow:=fP.1 hxz
    rw [hx] at hrow
    have hn:=(ahH hrow).2
    rw [Bool.eq_iff_iff,Bool.and_eq_true,Bool.not_eq_true',lH hxl,lH hb,hx]
    constructor
    · rintro ⟨_,h⟩
      obtain ⟨q1,q2⟩:=afP hn h
      exact ⟨⟨hz',q1⟩,q2⟩
    · rintro ⟨⟨_,h⟩,h2⟩
      rcases abA (who:=who) hb hC (hcl z) h with q|q
      · rw [q] at h2;cases h2
      · exact ⟨by rw [←hx];exact hxz,q⟩
  have e1:=adB (who:=who) hb hC (key z0 z1 x h1 hx hx1)
  have e2:=adB (who:=who) hb hC (key z1 z0 y h0 hy hy0)
  rw [←hx] at e1
  rw [←hy] at e2
  rw [e1,e2]
  congr 1
  funext r
  exact Bool.or_comm ..
end Go.Proofs.YtddmbnddgiebgaaGreatDoor
