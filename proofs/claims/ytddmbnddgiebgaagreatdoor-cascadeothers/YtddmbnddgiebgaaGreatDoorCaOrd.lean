import Derived.Test.YtddmbnddgiebgaaGreatDoorCaDelS
set_option linter.unusedSimpArgs false
set_option linter.unusedVariables false
namespace Go.Proofs.YtddmbnddgiebgaaGreatDoor
open Go Go.Abs
def fP (t:Tb) (G:R2→Bool) (l:Ln) (c:Int):Bool:=t.foreign.any fun f=>decide (f.col=c)&&bI G l f
theorem dX {t:Tb} {G:R2→Bool} {l:Ln} {c:Int}:fP t G l c=true↔∃f∈t.foreign,f.col=c∧bI G l f=true:=by
  unfold fP
  rw [List.any_eq_true]
  simp only [Bool.and_eq_true,decide_eq_true_eq]
theorem gR {t:Tb} {G:R2→Bool} {l:Ln}:fZ t G l=true↔∃f∈t.foreign,bI G l f=true:=by
  unfold fZ
  rw [List.any_eq_true]
theorem ajZ {t:Tb} {G:R2→Bool} {l:Ln} {bys:List Dt} (c:Int):ptP ⟨l.key,cR (bI G l) t.foreign l.cells_,bys⟩ c=if fP t G l c=true then none else ptP l c:=by
  by_cases hc:0≤c∧c<l.cells_.length
  · obtain ⟨j,rfl⟩:∃j:Nat,c=j:=⟨c.toNat,by omega⟩
    have hj:j<l.cells_.length:=by omega
    have hj2:j<(cR (bI G l) t.foreign l.cells_).length:=by rw [bW];exact hj
    rw [pJ hj,pJ (l:=⟨l.key,cR (bI G l) t.foreign l.cells_,bys⟩) hj2]
    show (if (cR (bI G l) t.foreign l.cells_)[j].val.kind=1 then some (cR (bI G l) t.foreign l.cells_)[j].val.n else none)=_
    rw [fE hj]
    unfold fP
    by_cases h:(t.foreign.any fun f=>decide (f.col=(j:Int))&&bI G l f)=true
    · rw [if_pos h,if_pos h];rfl
    · rw [if_neg h,if_neg h]
  · rw [nE hc,nE]
    · split<;>rfl
    · show ¬(0≤c∧c<(cR (bI G l) t.foreign l.cells_).length)
      rwa [bW]
theorem lY {t:Tb} {G:R2→Bool} {who:Dt} {l:Ln} (c:Int):ptP (bH t G who l) c=if fP t G l c=true then none else ptP l c:=by
  unfold bH
  by_cases h:fZ t G l=true
  · rw [if_pos h,ajZ]
  · rw [if_neg h,if_neg]
    intro q
    obtain ⟨f,hf,_,hh⟩:=dX.1 q
    exact h (gR.2 ⟨f,hf,hh⟩)
theorem gB (t:Tb) (G:R2→Bool) (who:Dt) (l:Ln):(bH t G who l).key=l.key:=by unfold bH;split<;>rfl
theorem fU {s:Sc} {b:Bs} {G:R2→Bool} {who:Dt} {k:Nat} (hk:k<b.length):(eS s b G who)[k]!.lines=iT s b G who k:=by
  have h:k<(eS s b G who).length:=by simpa [eS] using hk
  rw [getElem!_pos _ k h]
  simp [eS]
theorem eC (s:Sc) (b:Bs) (G:R2→Bool) (who:Dt):(eS s b G who).length=b.length:=by simp [eS]
theorem gS {s:Sc} {b:Bs} {G:R2→Bool} {who:Dt} {k:Nat} {x:Ln}:x∈iT s b G who k↔∃l∈b[k]!.lines,G ((k:Int),l.key)=false∧x=bH s[k]! G who l:=by
  unfold iT
  simp only [List.mem_map,List.mem_filter,Bool.not_eq_true']
  exact ⟨fun ⟨l,⟨h1,h2⟩,e⟩=>⟨l,h1,h2,e.symm⟩,fun ⟨l,h1,h2,e⟩=>⟨l,⟨h1,h2⟩,e.symm⟩⟩
section
variable {s:Sc} {b:Bs} {G:R2→Bool} {who:Dt}
theorem aeG {u v:R2} (h:chB s (eS s b G who) u v):chB s b u v∧G v=false:=by
  obtain ⟨k,hk,f,hf,x,hx,h1,h2,h3,rfl⟩:=h
  rw [eC] at hk
  rw [fU hk] at hx
  obtain ⟨l,hl,hg,rfl⟩:=gS.1 hx
  rw [lY] at h3
  split at h3
  · cases h3
  · rw [gB]
    exact ⟨⟨k,hk,f,hf,l,hl,h1,h2,h3,rfl⟩,hg⟩
theorem agD {r:R2} (h:r∈bR (eS s b G who)):r∈bR b∧G r=false:=by
  obtain ⟨k,hk,x,hx,rfl⟩:=eM.1 h
  rw [eC] at hk
  rw [fU hk] at hx
  obtain ⟨l,hl,hg,rfl⟩:=gS.1 hx
  rw [gB]
  exact ⟨eM.2 ⟨k,hk,l,hl,rfl⟩,hg⟩
theorem afU {z y:R2} (hz:G z=false) (h:Reach s (eS s b G who) z y):Reach s b z y∧G y=false:=by
  induction h with
  |refl=>exact ⟨.refl,hz⟩
  |step _ c ih=>exact ⟨.step ih.1 (aeG c).1,(aeG c).2⟩
def arU (s:Sc):Prop:=∀k (h:k<s.length),∀f∈s[k].foreign,∀f'∈s[k].foreign,f.col=f'.col→f=f'
theorem abZ (hb:b.length=s.length) (hC:arU s) (hcl:∀u v,chB s b u v→G u=true→G v=true) {z y:R2} (h:Reach s b z y):G y=true∨Reach s (eS s b G who) z y:=by
  induction h with
  |refl=>exact .inr .refl
  | @step y c _ ch ih=>
    rcases ih with q|q
    · exact .inl (hcl _ _ ch q)
    · cases hc:G c with
      |true=>exact .inl rfl
      |false=>
        cases hy:G y with
        |true=>rw [hcl _ _ ch hy] at hc;cases hc
        |false=>
          right
          obtain ⟨k,hk,f,hf,l,hl,h1,h2,h3,rfl⟩:=ch
          have hks:k<s.length:=by omega
          have e:y=(f.table,y.2):=by rw [h1]
          refine .step q ⟨k,by rw [eC];exact hk,f,hf,bH s[k]! G who l,by rw [fU hk];exact gS.2 ⟨l,hl,hc,rfl⟩,h1,h2, ?_,by rw [gB]⟩
          rw [lY,if_neg,h3]
          intro w
          obtain ⟨f',hf',w1,w2⟩:=dX.1 w
          rw [getElem!_pos s k hks] at hf hf'
          have:=hC k hks f' hf' f hf w1
          subst this
          rw [jC h3,←e,hy] at w2;cases w2
end
theorem uQ {a c:Ln} (d:Dt) (h:a.by_=c.by_):(bP a d).by_=(bP c d).by_:=by
  unfold bP
  rw [h]
  split<;>simp [h]
theorem akA (a:Ln) (d:Dt):d∈(bP a d).by_:=by
  unfold bP
  split
  · assumption
  · show d∈bY a.by_ (eF a.by_ d) [d]
    unfold bY
    simp
theorem aiQ (a:Ln) (d:Dt):(bP (bP a d) d).by_=(bP a d).by_:=by
  have:=akA a d
  show (if d∈(bP a d).by_ then bP a d else _).by_=_
  rw [if_pos this]
theorem agO {t:Tb} {G0 G1 Gx:R2→Bool} {who:Dt} {l:Ln} (hC:∀f∈t.foreign,∀f'∈t.foreign,f.col=f'.col→f=f') (hx:∀r,Gx r=(G1 r&& !G0 r)):bH t Gx who (bH t G0 who l)=bH t (fun r=>G0 r||G1 r) who l:=by
  have hxl:∀f,bI Gx l f=(bI G1 l f&& !bI G0 l f):=fun f=>by
    unfold bI
    cases ptP l f.col with
    |none=>rfl
    |some k=>exact hx _
  have h01:∀f,bI (fun r=>G0 r||G1 r) l f=(bI G0 l f||bI G1 l f):=fun f=>by
    unfold bI
    cases ptP l f.col<;>rfl
  have hh:∀f∈t.foreign,bI Gx (bH t G0 who l) f=bI Gx l f:=fun f hf=>by
    have:bI Gx (bH t G0 who l) f=if fP t G0 l f.col=true then false else bI Gx l f:=by
      unfold bI
      rw [lY]
      by_cases w:fP t G0 l f.col=true
      · rw [if_pos w,if_pos w]
      · rw [if_neg w,if_neg w]
    rw [this]
    by_cases w:fP t G0 l f.col=true
    · rw [if_pos w]
      obtain ⟨f',hf',w1,w2⟩:=dX.1 w
      have:=hC f' hf' f hf w1
      subst this
      rw [hxl,w2];simp
    · rw [if_neg w]
  have hany:fZ t (fun r=>G0 r||G1 r) l=(fZ t G0 l||fZ t Gx (bH t G0 who l)):=by
    rw [Bool.eq_iff_iff,Bool.or_eq_true,gR,gR,gR]
    constructor
    · rintro ⟨f,hf,e⟩
      rw [h01] at e
      cases e0:bI G0 l f with
      |true=>exact .inl ⟨f,hf,e0⟩
      |false=>rw [e0,Bool.false_or] at e;exact .inr ⟨f,hf,by rw [hh f hf,hxl,e,e0];rfl⟩
    · rintro (⟨f,hf,e⟩|⟨f,hf,e⟩)
      · exact ⟨f,hf,by rw [h01,e];rfl⟩
      · rw [hh f hf,hxl,Bool.and_eq_true] at e
        exact ⟨f,hf,by rw [h01,e.1];simp⟩
  have hcol:∀c:Int,fP t (fun r=>G0 r||G1 r) l c=(fP t G0 l c||t.foreign.any fun f=>decide (f.col=c)&&bI Gx (bH t G0 who l) f):=fun c=>by
    rw [Bool.eq_iff_iff,Bool.or_eq_true,dX,dX,List.any_eq_true]
    simp only [Bool.and_eq_true,decide_eq_true_eq]
    constructor
    · rintro ⟨f,hf,e1,e⟩
      rw [h01] at e
      cases e0:bI G0 l f with
      |true=>exact .inl ⟨f,hf,e1,e0⟩
      |false=>rw [e0,Bool.false_or] at e;exact .inr ⟨f,hf,e1,by rw [hh f hf,hxl,e,e0];rfl⟩
    · rintro (⟨f,hf,e1,e⟩|⟨f,hf,e1,e⟩)
      · exact ⟨f,hf,e1,by rw [h01,e];rfl⟩
      · rw [hh f hf,hxl,Bool.and_eq_true] at e
        exact ⟨f,hf,e1,by rw [h01,e.1];simp⟩
  have hnul:∀cs:List Cl,cs.length=l.cells_.length→cs=(if fZ t G0 l=true then cR (bI G0 l) t.foreign l.cells_ else l.cells_)→cR (bI Gx (bH t G0 who l)) t.foreign cs=cR (bI (fun r=>G0 r||G1 r) l) t.foreign l.cells_:=fun cs hcs e=>by
    refine List.ext_getElem (by rw [bW,bW,hcs]) fun j h1 h2=> ?_
    rw [bW] at h1 h2
    rw [fE h1,fE h2]
    have hc:=hcol j
    unfold fP at hc
    rw [hc]
    have hcj:cs[j]=if (t.foreign.any fun f=>decide (f.col=(j:Int))&&bI G0 l f)=true then Cl.zero else l.cells_[j]:=by
      by_cases ha:fZ t G0 l=true
      · rw [if_pos ha] at e
        subst e
        exact fE h2
      · rw [if_neg ha] at e
        subst e
        rw [if_neg]
        intro q
        obtain ⟨f,hf,_,w⟩:=dX.1 (show fP t G0 l j=true from q)
        exact ha (gR.2 ⟨f,hf,w⟩)
    rw [hcj]
    cases (t.foreign.any fun f=>decide (f.col=(j:Int))&&bI Gx (bH t G0 who l) f)<;>cases (t.foreign.any fun f=>decide (f.col=(j:Int))&&bI G0 l f)<;>simp
  have hcells:(bH t G0 who l).cells_=(if fZ t G0 l=true then cR (bI G0 l) t.foreign l.cells_ else l.cells_):=by
    unfold bH
    split<;>rfl
  have hclen:(bH t G0 who l).cells_.length=l.cells_.length:=by
    rw [hcells]
    split
    · rw [bW]
    · rfl
  have hby:(bH t G0 who l).by_=if fZ t G0 l=true then (bP l who).by_ else l.by_:=by
    unfold bH
    split<;>rfl
  by_cases hax:fZ t Gx (bH t G0 who l)=true
  · rw [show bH t Gx who (bH t G0 who l)=⟨(bH t G0 who l).key,cR (bI Gx (bH t G0 who l)) t.foreign (bH t G0 who l).cells_,(bP (bH t G0 who l) who).by_⟩ from if_pos hax,hnul _ hclen hcells,gB]
    rw [show bH t (fun r=>G0 r||G1 r) who l=⟨l.key,cR (bI (fun r=>G0 r||G1 r) l) t.foreign l.cells_,(bP l who).by_⟩ from if_pos (by rw [hany,hax,Bool.or_true])]
    congr 1
    by_cases ha:fZ t G0 l=true
    · rw [if_pos ha] at hby
      rw [uQ who (c:=bP l who) hby,aiQ]
    · rw [if_neg ha] at hby
      exact uQ who hby
  · rw [show bH t Gx who (bH t G0 who l)=bH t G0 who l from if_neg hax]
    have hn:=hnul _ hclen hcells
    by_cases ha:fZ t G0 l=true
    · rw [show bH t (fun r=>G0 r||G1 r) who l=⟨l.key,cR (bI (fun r=>G0 r||G1 r) l) t.foreign l.cells_,(bP l who).by_⟩ from if_pos (by rw [hany,ha,Bool.true_or]),←hn,aeP (by simpa [fZ] using hax),hcells,if_pos ha]
      exact if_pos ha
    · rw [show bH t (fun r=>G0 r||G1 r) who l=l from if_neg (by rw [hany];simp [ha,hax])]
      exact if_neg ha
theorem aeD {s:Sc} {b:Bs} {who:Dt} {G0 G1 Gx:R2→Bool} (hb:b.length=s.length) (hC:arU s) (hx:∀r,Gx r=(G1 r&& !G0 r)):eS s (eS s b G0 who) Gx who=eS s b (fun r=>G0 r||G1 r) who:=by
  refine List.ext_getElem (by rw [eC,eC,eC]) fun k h1 h2=> ?_
  rw [eC] at h1 h2
  rw [eC] at h1
  have e:∀(b':Bs) (G:R2→Bool) (h:k<(eS s b' G who).length),(eS s b' G who)[k]=⟨iT s b' G who k⟩:=fun b' G h=>by simp [eS]
  rw [e,e]
  congr 1
  unfold iT
  rw [fU h2]
  unfold iT
  rw [List.filter_map,List.map_map,List.filter_filter]
  have hks:k<s.length:=by omega
  have ef:(b[k]!.lines.filter fun a=>((fun l=> !Gx ((k:Int),l.key))∘bH s[k]! G0 who) a&& !G0 ((k:Int),a.key))=b[k]!.lines.filter fun l=> !(G0 ((k:Int),l.key)||G1 ((k:Int),l.key)):=by
    congr 1
    funext l
    simp only [Function.comp,gB,hx]
    cases G0 ((k:Int),l.key)<;>cases G1 ((k:Int),l.key)<;>rfl
  rw [ef]
  refine List.map_congr_left fun l _=> ?_
  exact agO (by rw [getElem!_pos s k hks];exact hC k hks) hx
theorem mG {rb:Bool} {s:Sc} {b:Bs} {z:R2} {who:Dt} {M:List R2} (h:(dQ rb s b z who M).2=0):rb=true∧eQ b z=true∧oA s b (inR M)=true∧(dQ rb s b z who M).1=eS s b (inR M) who:=by
  unfold dQ at h⊢
  cases rb with
  |false=>simp at h
  |true=>
    rw [if_pos rfl] at h⊢
    by_cases h1:eQ b z=true
    · rw [if_pos h1] at h⊢
      by_cases h2:oA s b (inR M)=true
      · rw [if_pos h2];exact ⟨rfl,h1,h2,rfl⟩
      · rw [if_neg h2] at h;simp at h
    · rw [if_neg h1] at h;simp at h
theorem agG {tx:Cl→Int} {s:Sc} {b:Bs} {z0 z1:R2} {who:Dt} (hg:bK tx s b=true) (h0:eQ b z0=true) (h1:eQ b z1=true) {x y:Bs} (hx:x=eS s b (inR (bS s b z0)) who) (hy:y=eS s b (inR (bS s b z1)) who) (hx1:eQ x z1=true) (hy0:eQ y z0=true):eS s x (inR (bS s x z1)) who=eS s y (inR (bS s y z0)) who:=by
  obtain ⟨⟨hr,hb⟩,_⟩:=cO.1 hg
  have hC:arU s:=fun k hk f hf f' hf' e=>by
    obtain ⟨i,hi,rfl⟩:=List.getElem_of_mem hf
    obtain ⟨j,hj,rfl⟩:=List.getElem_of_mem hf'
    have:=alS hr hk i j hi hj e
    subst this;rfl
  have hcl:∀z u v,chB s b u v→inR (bS s b z) u=true→inR (bS s b z) v=true:=fun z u v hc hu=>by
    obtain ⟨q1,q2⟩:=(fX hb).1 hu
    exact (fX hb).2 ⟨q1, .step q2 hc⟩
  have key:∀z z' (x:Bs),eQ b z'=true→x=eS s b (inR (bS s b z)) who→eQ x z'=true→∀r,inR (bS s x z') r=(inR (bS s b z') r&& !inR (bS s b z) r):=fun z z' x hz' hx hxz r=>by
    have hxl:x.length=s.length:=by rw [hx,eC];exact hb
    have hrow:=gC.1 hxz
    rw [hx] at hrow
    have hn:=(agD hrow).2
    rw [Bool.eq_iff_iff,Bool.and_eq_true,Bool.not_eq_true',fX hxl,fX hb,hx]
    constructor
    · rintro ⟨_,h⟩
      obtain ⟨q1,q2⟩:=afU hn h
      exact ⟨⟨hz',q1⟩,q2⟩
    · rintro ⟨⟨_,h⟩,h2⟩
      rcases abZ (who:=who) hb hC (hcl z) h with q|q
      · rw [q] at h2;cases h2
      · exact ⟨by rw [←hx];exact hxz,q⟩
  have e1:=aeD (who:=who) hb hC (key z0 z1 x h1 hx hx1)
  have e2:=aeD (who:=who) hb hC (key z1 z0 y h0 hy hy0)
  rw [←hx] at e1
  rw [←hy] at e2
  rw [e1,e2]
  congr 1
  funext r
  exact Bool.or_comm ..
end Go.Proofs.YtddmbnddgiebgaaGreatDoor
