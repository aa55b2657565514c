import Derived.Test.YtfablfldonhkiaaGreatDoorClAm
import Derived.Test.YtfablfldonhkiaaGreatDoorClAa
import Derived.Test.YtfablfldonhkiaaGreatDoorAbsSort
import Derived.Test.YtfablfldonhkiaaGreatDoorAbsG
import Derived.Test.YtfablfldonhkiaaGreatDoorAbsK
import Derived.Test.YtfablfldonhkiaaGreatDoorClAg
set_option linter.unusedSimpArgs false
set_option linter.unusedVariables false
namespace Go.Proofs.YtfablfldonhkiaaGreatDoor
open Go Go.Abs
section
attribute [local irreducible] Ev PWp
set_option maxRecDepth 10000
set_option maxHeartbeats 4000000
theorem aqJ (l:List Cl) (st:aD) (hl:l.length<1000000000000):PC Tryz.prog 118 [.seq (l.map Cl.cells)] st (LR 110 5 st (l.map Cl.cells)):=by
 refine pC Tryz.func118 rfl ?_
 (repeat' first|show Cn (.r _ _ _);refine .rr ?_;((first|exact .inr ⟨rfl,hb h,zsr _⟩|exact .inl ⟨id',by rw [zql],hid',aA _ _ _,cF hid'⟩));done|apply wZ;rfl|show Cn _;constructor|(apply ap0 pk (f:=Cl.cells) l 64;(iterate 10 rfl);exact λ_=>rfl;exact λ_=>rfl;exact atX;(omega);(omega);rfl;intro id' hid')|(apply aCg pk;(iterate 6 rfl);intro b hb)|intro h)
theorem aeC (l:List Cl) (st:aD) (hl:l.length<1000000000000):PC Tryz.prog 118 [.seq (l.map Cl.cells)] st λp S=>∃id,p= .vec id 5 0 l.length/\st id=none/\S=upd st id (some (.arr 110 (l.map Cl.cells))):=
 wO (abG (aqJ l st hl)) λp st' ⟨id,h1,h2,h3⟩=>⟨p,st',zwr _,zsr _,id,by rw [h1,zql],h2,h3⟩
end
section
attribute [local irreducible] Ev PWp
set_option maxRecDepth 10000
set_option maxHeartbeats 4000000
section
variable {l:List Oper} {d:Md} {r:List Oper} {s:St} {Kt:St->Prop} {t:Nat} {ty:TypeId} {pos:String} {after:Array Edge} {gd:Option (Nat×Bool)}
theorem lkS {T e:TypeId} {x y:Operand} {w:Bool} {M:List R2} {k:R2} (hw:bG l ⟨some t, .lookup T x y false,ty,pos,after,gd⟩ s=some w) (hx:opd s x=some (.fmap (aM nB bF (mE M)))) (hy:opd s y=some (.agg (r2C k))) (hT:tiK tt T=some (.map 236 e)) (hz:pzv tt e=some (vb (false))) (hf:All (flagsI s w [x,y] [])) (hd:Nat.blt t s.n=true)
  (ht:cO d l r=true) (kk:Ev Tryz.prog l d r (s.put (some t) w (.pv (vb (inR M k)))) Kt):Ev Tryz.prog l d (⟨some t, .lookup T x y false,ty,pos,after,gd⟩::r) s Kt:=by
 refine aH9 pk awR (f:=bF) hw hx hy hT hz hf hd ht rfl ?_
 have e:lA (vb (false)) bF false (bY k (mE M))=(vb (inR M k)):=by
  by_cases h:k∈M
  ·rw [aiH h];unfold inR;rw [decide_eq_true h];rfl
  ·rw [acL h];unfold inR;rw [decide_eq_false h];rfl
 rw [e];exact kk
end
def uE (t:Tb) (G:R2->Bool) (l:Ln):Bool:=t.foreign.all λf=> !dW G l f||decide (f.act=2)
def aA4 (t:Tb) (G:R2->Bool) (l:Ln):Bool:=t.foreign.any (dW G l)
def eK (p:Fr->Bool) (fs:List Fr) (cs:List Cl):List Cl:=cs.mapIdx λc x=>if fs.any (λf=>decide (f.col=(c:Int))&&p f)=true then Cl.zero else x
def kU (t:Tb) (G:R2->Bool) (who:Dt) (l:Ln):Ln:=if aA4 t G l=true then ⟨l.key,eK (dW G l) t.foreign l.cells_,(cZ l who).by_⟩ else l
theorem dA (p:Fr->Bool) (fs:List Fr) (cs:List Cl):(eK p fs cs).length=cs.length:=by simp [eK]
theorem nZ {p:Fr->Bool} {fs:List Fr} {cs:List Cl} {j:Nat} (h:j<cs.length):(eK p fs cs)[j]'(by rw [dA];exact h)=if fs.any (λf=>decide (f.col=(j:Int))&&p f)=true then Cl.zero else cs[j]:=by simp [eK]
theorem aE3 {p:Fr->Bool} {fs:List Fr} {cs:List Cl} (h:fs.any p=false):eK p fs cs=cs:=by
 refine List.ext_getElem (dA ..) λj h1 h2=> ?_
 rw [nZ h2,zn]
 intro q
 obtain ⟨f,hf,e⟩:=List.any_eq_true.1 q
 rw [zba] at e
 rw [List.any_eq_true.2 ⟨f,hf,e.2⟩] at h;cases h
theorem aGg {p:Fr->Bool} {fs:List Fr} {cs:List Cl} {i j:Nat} (hi:i<fs.length) (hp:p fs[i]=true) (hj:j<cs.length) (hc:fs[i].col=(j:Int)):eK p (fs.take (i+1)) cs=(eK p (fs.take i) cs).set j Cl.zero:=by
 refine List.ext_getElem (by rw [List.length_set,dA,dA]) λc h1 h2=> ?_
 rw [dA] at h1
 rw [nZ h1,List.getElem_set,List.take_succ_eq_append_getElem hi,List.any_append]
 by_cases e:j=c
 ·subst e
  rw [zp rfl,zp]
  simp [hc,hp]
 ·rw [zn e,nZ h1]
  have:([fs[i]].any λf=>decide (f.col=(c:Int))&&p f)=false:=by
   simp only [List.any_cons,List.any_nil,Bool.or_false,hc]
   rw [decide_eq_false (by omega)];rfl
  rw [this,Bool.or_false]
theorem ayG {p:Fr->Bool} {fs:List Fr} {cs:List Cl} {i:Nat} (hi:i<fs.length) (hp:p fs[i]=false):eK p (fs.take (i+1)) cs=eK p (fs.take i) cs:=by
 have e:∀c:Nat,((fs.take (i+1)).any λf=>decide (f.col=(c:Int))&&p f)=(fs.take i).any λf=>decide (f.col=(c:Int))&&p f:=λc=>by
  rw [List.take_succ_eq_append_getElem hi,List.any_append]
  simp only [List.any_cons,List.any_nil,hp,Bool.and_false,Bool.or_false]
 unfold eK
 simp only [e]
theorem aC3 {p:Fr->Bool} {fs:List Fr} {i:Nat} (hi:i<fs.length):(fs.take (i+1)).any p=((fs.take i).any p||p fs[i]):=by
 rw [List.take_succ_eq_append_getElem hi,List.any_append];simp
def lnV (l:Ln) (who:Dt):Option Nat->List PV
 |none=>l.cells
 |some id=>[(vi (l.key)), .vec id 5 0 l.cells_.length, .seq ((cZ l who).by_.map Dt.cells)]
def stO (st:aD) (cs:List Cl):Option Nat->aD
 |none=>st
 |some id=>upd st id (some (.arr 110 (cs.map Cl.cells)))
theorem alU (l:Ln) (d:Dt):(cZ l d).cells_=l.cells_/\(cZ l d).key=l.key:=by
 unfold cZ
 split<;>exact ⟨rfl,rfl⟩
theorem aFh (l:Ln) (cs:List Cl) (bys:List Dt) (c:Int) {st:aD} {id n:Nat} (hst:st id=some (.arr 110 (cs.map Cl.cells))) (hn:cs.length=n) (h0:0<n) (h:fR ⟨l.key,cs,bys⟩ c):PC Tryz.prog 90 [.agg [(vi (l.key)), .vec id 5 0 n, .seq (bys.map Dt.cells)],(vi (c))] st λr S=>r=ptR (ptP ⟨l.key,cs,bys⟩ c)/\S=st:=
 PC.borrow 0 hst zH (by simpa [hn] using h0) (.cons (.agg (.cons .refl (.cons (fL hn) (.cons .refl .nil)))) (.cons .refl .nil)) (WkL.refl _) (gA ⟨l.key,cs,bys⟩ c h) (by cases ptP ⟨l.key,cs,bys⟩ c<;>rfl)
theorem atB {l:Ln} {c k:Int} (h:ptP l c=some k):∃j:Nat,c=j/\j<l.cells_.length:=by
 by_cases hc:0<=c/\c<l.cells_.length
 ·exact ⟨c.toNat,by omega,by omega⟩
 ·rw [agR hc] at h;cases h
theorem aEL {l:Ln} {p:Fr->Bool} {fs:List Fr} {c:Int} {bys:List Dt} (h:∀f∈fs,f.col≠c):ptP ⟨l.key,eK p fs l.cells_,bys⟩ c=ptP l c:=by
 by_cases hc:0<=c/\c<l.cells_.length
 ·obtain ⟨j,rfl⟩:∃j:Nat,c=j:=⟨c.toNat,by omega⟩
  have hj:j<l.cells_.length:=by omega
  have hj2:j<(eK p fs l.cells_).length:=by rw [dA];exact hj
  rw [ahT hj,ahT (l:=⟨l.key,eK p fs l.cells_,bys⟩) hj2]
  have e:(eK p fs l.cells_)[j]=l.cells_[j]:=by
   rw [nZ hj,zn]
   intro q
   obtain ⟨f,hf,e⟩:=List.any_eq_true.1 q
   rw [zba,zde] at e
   exact h f hf e.1
  show (if (eK p fs l.cells_)[j].val.kind=1 then some (eK p fs l.cells_)[j].val.n else none)=_
  rw [e]
 ·rw [agR hc,agR]
  show ¬(0<=c/\c<(eK p fs l.cells_).length)
  rwa [dA]
theorem aET {l:Ln} {p:Fr->Bool} {fs:List Fr} {c:Int} {bys:List Dt} (h:fR l c):fR ⟨l.key,eK p fs l.cells_,bys⟩ c:=λj hj e=>by
 have hj2:j<(eK p fs l.cells_).length:=hj
 rw [dA] at hj2
 show (eK p fs l.cells_)[j].kind=0
 rw [nZ hj2]
 split
 ·rfl
 ·exact h j hj2 e
theorem aHE {p:Fr->Bool} {fs:List Fr} {i:Nat} {f:Fr} (hI:∀j (h:j<fs.length),j<i->p fs[j]=true) (h:i<fs.length) (e:fs[i]=f) (hf:p f=true):∀j (h:j<fs.length),j<i+1->p fs[j]=true:=λj hj hji=>by
 rcases zls.1 hji with q|q
 ·exact hI j hj q
 ·subst q;rw [e];exact hf
theorem wkz :Wk (.agg [(vi (0)),(vi (0)),(vi (0)), .val (.string e0), .val (.slice none 0 0)]) (.agg Cl.zero.cells):= .agg (.cons (zwr _) (.cons (zwr _) (.cons (zwr _) (.cons (zwr _) (.cons Wk.nil .nil)))))
def aH5 (st:aD) (t:Tb) (l:Ln) (M:List R2) (who:Dt) (r:PV) (S:aD):Prop:=
 (uE t (inR M) l=false/\r= .tup [.agg [(vi (0)), .val (.slice none 0 0), .val (.slice none 0 0)],(vb (false))]/\StSub st S)\/(uE t (inR M) l=true/\aA4 t (inR M) l=false/\r= .tup [.agg l.cells,(vb (true))]/\S=st)\/
 (uE t (inR M) l=true/\aA4 t (inR M) l=true/\∃id,r= .tup [.agg (lnV l who (some id)),(vb (true))]/\st id=none/\S=upd st id (some (.arr 110 ((eK (dW (inR M) l) t.foreign l.cells_).map Cl.cells))))
theorem aEu (t:Tb) (l:Ln) (M:List R2) (who:Dt) (hf:t.foreign.length<1000000000000) (hc:l.cells_.length<1000000000000) (hb:l.by_.length<100000000000) (hR:∀f∈t.foreign,fR l f.col) (hD:∀i j (hi:i<t.foreign.length) (hj:j<t.foreign.length),t.foreign[i].col=t.foreign[j].col->i=j) (st:aD):
  PC Tryz.prog 177 [.agg t.cells, .agg l.cells, .fmap (aM nB bF (mE M)), .agg who.cells] st (aH5 st t l M who):=by
 have hw:=aaW l who hb
 obtain ⟨w1,w2⟩:=alU l who
 have ew:(cZ l who).cells=[(vi (l.key)), .seq (l.cells_.map Cl.cells), .seq ((cZ l who).by_.map Dt.cells)]:=by show [(vi ((cZ l who).key)), .seq ((cZ l who).cells_.map Cl.cells),_]=_;rw [w1,w2]
 rw [ew] at hw
 have hcl:=aeC l.cells_
 refine pC Tryz.func177 rfl ?_
 focus ((repeat' first|apply wZ;rfl|show Cn _;constructor))
 refine aC (X:={x:Nat×Option Nat//x.1<=t.foreign.length/\(∀j (h:j<t.foreign.length),j<x.1->(!dW (inR M) l t.foreign[j]||decide (t.foreign[j].act=2))=true)/\x.2.isSome=(t.foreign.take x.1).any (dW (inR M) l)/\∀id,x.2=some id->st id=none}) (λi=>(((((((((St.nil 61 (stO st (eK (dW (inR M) l) (t.foreign.take i.1.1) l.cells_) i.1.2)).pv 2 (.fmap (aM nB bF (mE M)))).var 5 47 (lnV l who i.1.2)).var 7 80 (who.cells)).var 8 47 ([(vi (0)), .val (.slice none 0 0), .val (.slice none 0 0)])).pv 10 ((vb (i.1.2.isSome)))).pv 16 (.seq (t.foreign.map Fr.cells))).pv 17 ((vi (((t.foreign.map Fr.cells).length:Nat))))).pv 18 ((vi ((i.1.1:Nat)))))) (λi=>t.foreign.length-i.1.1) ⟨(0,none),by simp,by simp,by simp,by simp⟩ ?_ (λi=> ?_)
 ·dsimp only [stO,lnV,Option.isSome]
  (repeat' first|show Cn (.t _ _);exact Cn.t0|show Cn _;constructor|exact rfl)
 obtain ⟨⟨i,o⟩,hi,hI,ho,hid⟩:=i
 simp only at hi hI ho hid
 dsimp only
 by_cases hend:t.foreign.length<=i
 ·have e1:uE t (inR M) l=true:=zal.2 λf hf=>by
   obtain ⟨j,hj,rfl⟩:=zgo hf
   exact hI j hj (by omega)
  rw [ztl hend] at ho⊢
  cases o with
  |none=>
   dsimp only [stO,lnV,Option.isSome] at ho⊢
   have e2:aA4 t (inR M) l=false:=ho.symm
   (repeat' first|show Cn (.r _ _ _);refine .rr ?_;(exact .inr (.inl ⟨e1,e2,rfl,rfl⟩));done|apply wZ;rfl|show Cn _;constructor|simp only [zql];omega|(intro h;simp at h))
  |some id=>
   dsimp only [stO,lnV,Option.isSome] at ho⊢
   have e2:aA4 t (inR M) l=true:=ho.symm
   have hid:=hid id rfl
   (repeat' first|show Cn (.r _ _ _);refine .rr ?_;(exact .inr (.inr ⟨e1,e2,id,rfl,hid,rfl⟩));done|apply wZ;rfl|show Cn _;constructor|simp only [zql];omega|(intro h;simp at h))
 have hil:i<t.foreign.length:=by omega
 have hRf:=hR _ (zgm hil)
 have hsn:=aC3 (p:=dW (inR M) l) hil
 have hsame:=ayG (p:=dW (inR M) l) (cs:=l.cells_) hil
 have hup:=λj=>aGg (p:=dW (inR M) l) (cs:=l.cells_) (j:=j) hil
 have hne:∀f∈t.foreign.take i,f.col≠t.foreign[i].col:=λf hf e=>by
  obtain ⟨j,hj,rfl⟩:=zgo hf
  rw [zlt] at hj
  rw [List.getElem_take] at e
  have:=hD j i (by omega) hil e
  omega
 have hbad:(!dW (inR M) l t.foreign[i]||decide (t.foreign[i].act=2))=false->uE t (inR M) l=false:=λh=>by
  unfold uE
  rw [<-Bool.not_eq_true,zal]
  intro q
  rw [q _ (zgm hil)] at h;cases h
 obtain ⟨f,hfe⟩:∃f,t.foreign[i]=f:=⟨_,rfl⟩
 have hAU:=λh=>aHE (p:=λf=> !dW (inR M) l f||decide (f.act=2)) hI hil hfe h
 rw [hfe] at hRf hsn hsame hne hbad hup
 have hgf:(t.foreign.map Fr.cells)[i]?=some f.cells:=by rw [List.getElem?_map,zgg hil,hfe];rfl
 cases o with
 |none=>
  dsimp only [stO,lnV,Option.isSome] at ho⊢
  have hp:=gA l f.col hRf
  cases hpt:ptP l f.col with
  |none=>
   have hh:dW (inR M) l f=false:=afM hpt
   have hU:=hAU (by rw [hh];rfl)
   have ho2:(none:Option Nat).isSome=(t.foreign.take (i+1)).any (dW (inR M) l):=by rw [hsn,hh,Bool.or_false];exact ho
   rw [hpt] at hp
   (repeat' first|apply lkS (M:=M) (k:=(f.table,0));(iterate 5 rfl);rotate_left;rfl;rfl|(apply Cn.cf;focus ((apply hp);done))|(refine ⟨⟨(i+1,none),by simp only;omega,hU,ho2,by simp⟩, ?_, ?_⟩)|show Cn (.t _ _);exact Cn.t0|apply wZ;rfl|show Cn _;constructor|exact rfl|apply cN pk;(iterate 6 rfl);rotate_left;rfl;(intro hw;rfl);(intro hw;apply hgf<;>omega);(intro _;rfl);rfl|apply wY;rfl|omega|simp only [zql];omega|(intro h;simp at h))
  |some k=>
   rw [hpt] at hp
   have hh:dW (inR M) l f=inR M (f.table,k):=afB hpt
   cases hG:inR M (f.table,k) with
   |false=>
    rw [hG] at hh
    have hU:=hAU (by rw [hh];rfl)
    have ho2:(none:Option Nat).isSome=(t.foreign.take (i+1)).any (dW (inR M) l):=by rw [hsn,hh,Bool.or_false];exact ho
    (repeat' first|apply lkS (M:=M) (k:=(f.table,k));(iterate 5 rfl);rotate_left;rfl;rfl;rw [hG]|(apply Cn.cf;focus ((apply hp);done))|(refine ⟨⟨(i+1,none),by simp only;omega,hU,ho2,by simp⟩, ?_, ?_⟩)|show Cn (.t _ _);exact Cn.t0|apply wZ;rfl|show Cn _;constructor|exact rfl|apply cN pk;(iterate 6 rfl);rotate_left;rfl;(intro hw;rfl);(intro hw;apply hgf<;>omega);(intro _;rfl);rfl|apply wY;rfl|omega|simp only [zql];omega|(intro h;simp at h))
   |true=>
    rw [hG] at hh
    by_cases ha:f.act=2
    ·have hU:=hAU (by rw [hh,decide_eq_true ha];rfl)
     obtain ⟨j,hj,hjl⟩:=atB hpt
     have hn0:eK (dW (inR M) l) (t.foreign.take i) l.cells_=l.cells_:=aE3 ho.symm
     have e1:eK (dW (inR M) l) (t.foreign.take (i+1)) l.cells_=l.cells_.set j Cl.zero:=by rw [hup j hh hjl hj,hn0]
     have ho2:∀id:Nat,(some id).isSome=(t.foreign.take (i+1)).any (dW (inR M) l):=λid=>by rw [hsn,hh,Bool.or_true];rfl
     have hgj:(l.cells_.map Cl.cells)[j]?=some (l.cells_[j]'hjl).cells:=by rw [List.getElem?_map,zgg hjl];rfl
     (repeat' first|apply lkS (M:=M) (k:=(f.table,k));(iterate 5 rfl);rotate_left;rfl;rfl;rw [hG]|(apply Cn.cf;focus (((first|apply hp|apply hw));done))|(apply cP;rfl;(apply (hcl st hc));rintro _ st' (⟨id,rfl,hid0,rfl⟩))|refine ⟨⟨(i+1,some id),by simp only;omega,hU,ho2 id,λ_ h=>by cases h;exact hid0⟩, ?_, ?_⟩;((dsimp only [stO,lnV,Option.isSome];rw [e1,List.map_set]))|show Cn (.t _ _);exact .any (cQ (by (((simp only [St.pv,St.put,St.sst,St.setv,St.nil,St.var,eF]);(rfl)))))|apply wZ;rfl|show Cn _;constructor|exact rfl|apply cN pk;(iterate 6 rfl);rotate_left;rfl;(intro hw;rfl);(intro hw;apply hgf<;>omega);(intro _;rfl);rfl|apply ixA pk;(iterate 5 rfl);rotate_left;rfl;(intro hw;(exact (show _=((j:Nat):Int) from by omega)));(intro hw;(omega));rfl;(exact Nat.zero_add _)|apply aGB 57;rfl;exact wkz|apply stX pk;rfl;rfl;exact aA _ _ _;rfl;exact hgj;rfl;rfl|apply wY;rfl|omega|simp only [zql];omega|(intro h;simp at h)|intro h)
    ·have hb:=hbad (by rw [hh,decide_eq_false ha];rfl)
     (repeat' first|apply lkS (M:=M) (k:=(f.table,k));(iterate 5 rfl);rotate_left;rfl;rfl;rw [hG]|(apply Cn.cf;focus ((apply hp);done))|show Cn (.r _ _ _);refine .rr ?_;(exact .inl ⟨hb,rfl,zsr _⟩);done|apply wZ;rfl|show Cn _;constructor|apply cN pk;(iterate 6 rfl);rotate_left;rfl;(intro hw;rfl);(intro hw;apply hgf<;>omega);(intro _;rfl);rfl|apply wY;rfl|omega|simp only [zql];omega|(intro h;simp at h)|intro h)
 |some id=>
  dsimp only [stO,lnV,Option.isSome] at ho⊢
  have hid0:=hid id rfl
  have h0:0<l.cells_.length:=by
   obtain ⟨f',_,hf'⟩:=List.any_eq_true.1 ho.symm
   obtain ⟨k,hk,_⟩:=aBQ.1 hf'
   obtain ⟨j,_,hj⟩:=atB hk
   omega
  have hlenN:(eK (dW (inR M) l) (t.foreign.take i) l.cells_).length=l.cells_.length:=dA ..
  have hp:=aFh l (eK (dW (inR M) l) (t.foreign.take i) l.cells_) (cZ l who).by_ f.col (st:=upd st id (some (.arr 110 ((eK (dW (inR M) l) (t.foreign.take i) l.cells_).map Cl.cells)))) (id:=id) (aA _ _ _) hlenN h0 (aET hRf)
  rw [aEL hne] at hp
  have ho2:(some id).isSome=(t.foreign.take (i+1)).any (dW (inR M) l):=by rw [hsn,<-ho];rfl
  cases hpt:ptP l f.col with
  |none=>
   have hh:dW (inR M) l f=false:=afM hpt
   have hU:=hAU (by rw [hh];rfl)
   have e1:=hsame hh
   rw [hpt] at hp
   (repeat' first|apply lkS (M:=M) (k:=(f.table,0));(iterate 5 rfl);rotate_left;rfl;rfl|(apply cP;rfl;(apply hp);rintro _ st' (⟨rfl,rfl⟩))|refine ⟨⟨(i+1,some id),by simp only;omega,hU,ho2,λ_ h=>by cases h;exact hid0⟩, ?_, ?_⟩;((dsimp only [stO,lnV,Option.isSome];rw [e1]))|show Cn (.t _ _);exact Cn.t0|apply wZ;rfl|show Cn _;constructor|exact rfl|apply cN pk;(iterate 6 rfl);rotate_left;rfl;(intro hw;rfl);(intro hw;apply hgf<;>omega);(intro _;rfl);rfl|apply wY;rfl|omega|simp only [zql];omega|(intro h;simp at h))
  |some k=>
   rw [hpt] at hp
   have hh:dW (inR M) l f=inR M (f.table,k):=afB hpt
   cases hG:inR M (f.table,k) with
   |false=>
    rw [hG] at hh
    have hU:=hAU (by rw [hh];rfl)
    have e1:=hsame hh
    (repeat' first|apply lkS (M:=M) (k:=(f.table,k));(iterate 5 rfl);rotate_left;rfl;rfl;rw [hG]|(apply cP;rfl;(apply hp);rintro _ st' (⟨rfl,rfl⟩))|refine ⟨⟨(i+1,some id),by simp only;omega,hU,ho2,λ_ h=>by cases h;exact hid0⟩, ?_, ?_⟩;((dsimp only [stO,lnV,Option.isSome];rw [e1]))|show Cn (.t _ _);exact Cn.t0|apply wZ;rfl|show Cn _;constructor|exact rfl|apply cN pk;(iterate 6 rfl);rotate_left;rfl;(intro hw;rfl);(intro hw;apply hgf<;>omega);(intro _;rfl);rfl|apply wY;rfl|omega|simp only [zql];omega|(intro h;simp at h))
   |true=>
    rw [hG] at hh
    by_cases ha:f.act=2
    ·have hU:=hAU (by rw [hh,decide_eq_true ha];rfl)
     obtain ⟨j,hj,hjl⟩:=atB hpt
     have e1:=hup j hh hjl hj
     have hjn:j<(eK (dW (inR M) l) (t.foreign.take i) l.cells_).length:=by rw [hlenN];exact hjl
     have hgj:((eK (dW (inR M) l) (t.foreign.take i) l.cells_).map Cl.cells)[j]?=some ((eK (dW (inR M) l) (t.foreign.take i) l.cells_)[j]'hjn).cells:=by rw [List.getElem?_map,zgg hjn];rfl
     (repeat' first|apply lkS (M:=M) (k:=(f.table,k));(iterate 5 rfl);rotate_left;rfl;rfl;rw [hG]|(apply cP;rfl;(apply hp);rintro _ st' (⟨rfl,rfl⟩))|refine ⟨⟨(i+1,some id),by simp only;omega,hU,ho2,λ_ h=>by cases h;exact hid0⟩, ?_, ?_⟩;((dsimp only [stO,lnV,Option.isSome];rw [e1,List.map_set]))|show Cn (.t _ _);exact .any (cQ (by (((simp only [St.pv,St.put,St.sst,St.setv,St.nil,St.var,eF]);(rfl)))))|apply wZ;rfl|show Cn _;constructor|exact rfl|apply cN pk;(iterate 6 rfl);rotate_left;rfl;(intro hw;rfl);(intro hw;apply hgf<;>omega);(intro _;rfl);rfl|apply ixA pk;(iterate 5 rfl);rotate_left;rfl;(intro hw;(exact (show _=((j:Nat):Int) from by omega)));(intro hw;(omega));rfl;(exact Nat.zero_add _)|apply aGB 57;rfl;exact wkz|apply stX pk;rfl;rfl;exact aA _ _ _;rfl;exact hgj;rfl;rfl|apply wY;rfl|omega|simp only [zql];omega|(intro h;simp at h)|intro h)
    ·have hb:=hbad (by rw [hh,decide_eq_false ha];rfl)
     (repeat' first|apply lkS (M:=M) (k:=(f.table,k));(iterate 5 rfl);rotate_left;rfl;rfl;rw [hG]|(apply cP;rfl;(apply hp);rintro _ st' (⟨rfl,rfl⟩))|show Cn (.r _ _ _);refine .rr ?_;(exact .inl ⟨hb,rfl,cR hid0⟩);done|apply wZ;rfl|show Cn _;constructor|apply cN pk;(iterate 6 rfl);rotate_left;rfl;(intro hw;rfl);(intro hw;apply hgf<;>omega);(intro _;rfl);rfl|apply wY;rfl|omega|simp only [zql];omega|(intro h;simp at h)|intro h)
def aBF (t:Tb) (G:R2->Bool) (who:Dt) (l:Ln):PV:=if uE t G l=true then .tup [.agg (kU t G who l).cells,(vb (true))] else .tup [.agg Ln.zero.cells,(vb (false))]
theorem azC (t:Tb) (l:Ln) (M:List R2) (who:Dt) (hf:t.foreign.length<1000000000000) (hc:l.cells_.length<1000000000000) (hb:l.by_.length<100000000000) (hR:∀f∈t.foreign,fR l f.col) (hD:∀i j (hi:i<t.foreign.length) (hj:j<t.foreign.length),t.foreign[i].col=t.foreign[j].col->i=j):
  PF Tryz.prog 177 [.agg t.cells, .agg l.cells, .fmap (aM nB bF (mE M)), .agg who.cells] (aBF t (inR M) who l):=λst=>
 fS (sz:=5) (aEu t l M who hf hc hb hR hD st) λp st' h=>by
  unfold aBF
  rcases h with ⟨h1,rfl,h2⟩|⟨h1,h2,rfl,rfl⟩|⟨h1,h2,id,rfl,h3,rfl⟩
  ·rw [zn (by rw [h1];simp)]
   exact .inr ⟨_,_,Wk.tup (.cons (.agg (.cons (zwr _) (.cons Wk.nil (.cons Wk.nil .nil)))) (.cons (zwr _) .nil)),h2,rfl,rfl⟩
  ·rw [zp h1]
   unfold kU
   rw [zn (by rw [h2];simp)]
   exact .inr ⟨_,_,zwr _,zsr _,rfl,rfl⟩
  ·rw [zp h1]
   unfold kU
   rw [zp h2]
   exact .inl ⟨id,110,(eK (dW (inR M) l) t.foreign l.cells_).map Cl.cells,_,st,aA _ _ _,zH, .tup (.cons (.agg (.cons .refl (.cons (fL (dA ..)) (.cons .refl .nil)))) (.cons .refl .nil)),cF h3,rfl,rfl⟩
end
section
attribute [local irreducible] Ev PWp
set_option maxRecDepth 10000
set_option maxHeartbeats 4000000
theorem aFR (s:Sc) (hl:s.length<1000000000000) (st:aD):PC Tryz.prog 56 [.agg (scC s)] st λr S=>∃id,r= .agg [.vec id 1 0 s.length]/\st id=none/\S=upd st id (some (.arr 43 ((List.replicate s.length ()).map aaK))):=by
 refine pC Tryz.func56 rfl ?_
 (repeat' first|show Cn (.r _ _ _);refine .rr ?_;(exact ⟨id,rfl,hid,rfl⟩);done|apply wZ;rfl|show Cn _;constructor|(apply aIp pk () (f:=aaK) (n:=s.length) (B:=24);(iterate 11 rfl);(focus (simp;done));(focus (simp;done));exact agQ;omega;omega;intro id hid))
def jR (n k:Nat) (f:Nat->List Ln):List (List PV):=(List.range n).map λj=>if j<k then [.seq ((f j).map Ln.cells)] else [.val (.slice none 0 0)]
theorem asQ (n:Nat) (f:Nat->List Ln):jR n 0 f=(List.replicate n ()).map aaK:=by
 refine List.ext_getElem (by simp [jR]) λj h1 h2=> ?_
 simp [jR,aaK]
theorem aAF {n k:Nat} (h:k<n) (f:Nat->List Ln):(jR n k f)[k]?=some [.val (.slice none 0 0)]:=by simp [jR,h]
theorem ayV {n k:Nat} (f:Nat->List Ln):(jR n k f).set k [.seq ((f k).map Ln.cells)]=jR n (k+1) f:=by
 refine List.ext_getElem (by simp [jR]) λj h1 h2=> ?_
 rw [List.getElem_set]
 simp only [jR,List.getElem_map,List.getElem_range]
 by_cases e:k=j
 ·subst e;rw [zp rfl,zp (Nat.lt_succ_self _)]
 ·rw [zn e]
  by_cases h:j<k
  ·rw [zp h,zp (by omega)]
  ·rw [zn h,zn (by omega)]
theorem aAa (n:Nat) (f:Nat->List Ln):jR n n f=((List.range n).map λj=>(⟨f j⟩:Da)).map Da.cells:=by
 unfold jR
 rw [List.map_map]
 refine List.map_congr_left λj hj=> ?_
 rw [zp (List.mem_range.1 hj)];rfl
theorem azB (n k:Nat) (f:Nat->List Ln):(jR n k f).length=n:=by simp [jR]
section
variable {st:aD} {idT idL id':Nat}
theorem aAK {x a o:Option AObj} (h:idL≠idT):StSub (upd (upd st idL a) idT o) (upd (upd (upd st idT x) idL a) idT o):=cQ (by rw [eG (Ne.symm h),eF])
theorem asU {a b b' o o1 o2:Option AObj} (h:st idL=none) (h1:idL≠idT) (eb:b'=b) (eo:o2=o1):StSub (upd (upd st id' b') idT o2) (upd (upd (upd (upd (upd st idL a) idT o) idL none) id' b) idT o1):=λj=>by
 subst eb;subst eo
 by_cases e1:j=idT
 ·subst e1;right;rw [aA,aA]
 ·rw [aB e1,aB e1]
  by_cases e2:j=id'
  ·subst e2;right;rw [aA,aA]
  ·rw [aB e2,aB e2]
   by_cases e3:j=idL
   ·subst e3;left;exact h
   ·right;rw [aB e3,aB e1,aB e3]
theorem axK {a o o1 o2:Option AObj} (h:st idL=none) (h1:idL≠idT) (eo:o2=o1):StSub (upd st idT o2) (upd (upd (upd (upd st idL a) idT o) idL none) idT o1):=λj=>by
 subst eo
 by_cases e1:j=idT
 ·subst e1;right;rw [aA,aA]
 ·rw [aB e1,aB e1]
  by_cases e3:j=idL
  ·subst e3;left;exact h
  ·right;rw [aB e3,aB e1,aB e3]
theorem aqF {a o:Option AObj} (h:st idL=none) (h1:st idT=none):StSub st (upd (upd st idL a) idT o):=λj=>by
 cases hj:st j with
 |none=>exact .inl rfl
 |some x=>
  right
  rw [aB (λe=>by subst e;rw [h1] at hj;cases hj),aB (λe=>by subst e;rw [h] at hj;cases hj),hj]
theorem sQ {a o:AObj} (h:upd (upd st idL (some a)) idT (some o) id'=none):idT≠id'/\st id'=none:=by
 by_cases e:id'=idT
 ·rw [e,aA] at h;cases h
 ·rw [aB e] at h
  refine ⟨Ne.symm e, ?_⟩
  by_cases e2:id'=idL
  ·rw [e2,aA] at h;cases h
  ·rwa [aB e2] at h
end
def oJ (s:Sc) (b:Bs) (G:R2->Bool) (who:Dt) (k y:Nat):List Ln:=((b[k]!.lines.take y).filter λl=> !G ((k:Int),l.key)).map (kU s[k]! G who)
def qS (s:Sc) (b:Bs) (G:R2->Bool) (who:Dt) (k:Nat):List Ln:=(b[k]!.lines.filter λl=> !G ((k:Int),l.key)).map (kU s[k]! G who)
def yO (s:Sc) (b:Bs) (G:R2->Bool) (who:Dt):Bs:=(List.range b.length).map λk=>⟨qS s b G who k⟩
def aaG (t:Tb) (G:R2->Bool) (k:Nat) (l:Ln):Bool:=G ((k:Int),l.key)||uE t G l
def ajZ (s:Sc) (b:Bs) (G:R2->Bool):Bool:=(List.range b.length).all λk=>b[k]!.lines.all (aaG s[k]! G k)
theorem aFX {s:Sc} {b:Bs} {G:R2->Bool} {who:Dt} {k y:Nat} (h:y<b[k]!.lines.length):oJ s b G who k (y+1)=if G ((k:Int),b[k]!.lines[y].key)=true then oJ s b G who k y else oJ s b G who k y++[kU s[k]! G who b[k]!.lines[y]]:=by
 unfold oJ
 rw [List.take_succ_eq_append_getElem h,List.filter_append,List.map_append,abC]
 cases hg:G ((k:Int),b[k]!.lines[y].key)<;>simp
theorem aBR {s:Sc} {b:Bs} {G:R2->Bool} {who:Dt} {k:Nat}:oJ s b G who k b[k]!.lines.length=qS s b G who k:=by unfold oJ qS;rw [List.take_length]
theorem aC5 (s:Sc) (b:Bs) (G:R2->Bool) (who:Dt) (k y:Nat):(oJ s b G who k y).length<=b[k]!.lines.length:=by
 unfold oJ
 rw [zql]
 exact Nat.le_trans (List.length_filter_le ..) (by rw [zlt];omega)
theorem aEA {s:Sc} {b:Bs} {G:R2->Bool} {k y:Nat} (hk:k<b.length) (hy:y<b[k].lines.length) (h:aaG s[k]! G k b[k].lines[y]=false):ajZ s b G=false:=by
 unfold ajZ
 rw [<-Bool.not_eq_true,zal]
 intro q
 have:=q k (List.mem_range.2 hk)
 rw [getElem!_pos b k hk] at this
 have:=zal.1 this _ (zgm hy)
 rw [h] at this;cases this
structure FolD (s:Sc) (b:Bs):Prop extends Fol s b where
 ln:∀k (h:k<b.length),b[k].lines.length<=100000
 cl:∀k (h:k<b.length),∀l∈b[k].lines,l.cells_.length<100000000000/\l.by_.length<100000000000
 cols:∀k (h:k<s.length),∀i j (hi:i<s[k].foreign.length) (hj:j<s[k].foreign.length),s[k].foreign[i].col=s[k].foreign[j].col->i=j
def aH4 (s:Sc) (b:Bs) (who:Dt) (M:List R2) (st:aD) (r:PV) (S:aD):Prop:=
 (ajZ s b (inR M)=false/\r= .tup [.agg [.val (.slice none 0 0)],(vi (10))]/\StSub st S)\/(ajZ s b (inR M)=true/\∃id,r= .tup [.agg [.vec id 1 0 b.length],(vi (0))]/\S id=some (.arr 43 ((yO s b (inR M) who).map Da.cells))/\StSub st (upd S id none))
theorem aGX {s:Sc} {b:Bs} (hFo:FolD s b) (hr:PF Tryz.prog 19 [.agg (scC s), .agg (bsC b)] (vb (true))) (z:R2) (who:Dt) (hz:adQ b z=true) (st:aD):PC Tryz.prog 116 [.agg (scC s), .agg (bsC b),(vi (z.1)),(vi (z.2)), .agg who.cells] st (aH4 s b who (tV s b z) st):=by
 have hk:=ajD hFo.toFol (λd hd=>by obtain ⟨k,hk,rfl⟩:=zgo hd;have:=hFo.ln k hk;omega) z
 unfold aF5 at hk
 have hM0:0<(tV s b z).length:=by
  unfold tV
  rw [zp hz]
  exact List.length_pos_of_mem ((aG2 hFo.len (alY.1 hz)).me z rfl)
 obtain ⟨⟨hlen,s16,f16,hreg,hlns⟩,ln,hcl,hcols⟩:=hFo
 have hnew:=aFR s (by omega)
 generalize tV s b z=M at*
 refine pC Tryz.func116 rfl ?_
 have hlm:aM nB bF (mE M)≠[]:=λe=>by
  have:=congrArg List.length e
  unfold aM mE at this
  rw [zql,zql] at this
  simp only [List.length_nil] at this;omega
 have hI:∀k y,(oJ s b (inR M) who k y).length<=b[k]!.lines.length:=λk y=>aC5 s b (inR M) who k y
 focus ((repeat' first|apply lnF pk;rfl;rfl;rfl;rotate_left;rfl;rfl|(apply Cn.cf;focus (((first|apply hr|apply hk));done))|(apply cP;rfl;(apply (hnew st));rintro _ st' (⟨idT,rfl,hidT,rfl⟩))|apply wZ;rfl|show Cn _;constructor|apply wY;rfl|((exfalso;first|exact hlm h|fail))|(intro h;simp at h)))
 have hidT0:st idT=none:=hidT
 have hsub:StSub (upd st idT (some (.arr 43 (jR b.length 0 (qS s b (inR M) who))))) (upd st idT (some (.arr 43 ((List.replicate s.length ()).map aaK)))):=by rw [asQ,hlen];exact zsr _
 refine aC (X:={x:Nat//x<=b.length/\∀k (h:k<b.length),k<x->∀y (h:y<b[k].lines.length),aaG s[k]! (inR M) k b[k].lines[y]=true}) (λi=>(((((((((St.nil 89 (upd st idT (some (.arr 43 (jR b.length i.1 (qS s b (inR M) who)))))).var 5 24 ((scC s))).var 9 80 (who.cells)).var 10 27 ([.val (.slice none 0 0)])).pv 12 (.fmap (aM nB bF (mE M)))).var 13 27 ([.vec idT 1 0 s.length])).pv 37 (.seq (b.map Da.cells))).pv 38 ((vi (((b.map Da.cells).length:Nat))))).pv 39 ((vi ((i.1:Nat)))))) (λi=>b.length-i.1) ⟨0,by omega,by simp⟩ ?_ (λi=> ?_)
 ·(repeat' first|exact .any hsub|show Cn _;constructor|exact rfl)
 obtain ⟨i,hi,hIv⟩:=i
 dsimp only
 by_cases hend:b.length<=i
 ·obtain rfl:i=b.length:=by omega
  have hmay:ajZ s b (inR M)=true:=by
   unfold ajZ
   rw [zal]
   intro k hk
   have hk:=List.mem_range.1 hk
   rw [getElem!_pos b k hk,zal]
   intro l hl
   obtain ⟨y,hy,rfl⟩:=zgo hl
   exact hIv k hk hk y hy
  rw [aAa]
  (repeat' first|show Cn (.r _ _ _);refine .rr ?_;(exact .inr ⟨hmay,idT,by rw [hlen],aA _ _ _,cF hidT0⟩);done|apply wZ;rfl|show Cn _;constructor|simp only [zql];omega|(intro h;simp at h))
 have hib:i<b.length:=by omega
 have his:i<s.length:=by omega
 have hrow:=aAF hib (qS s b (inR M) who)
 have hset:=ayV (n:=b.length) (k:=i) (qS s b (inR M) who)
 have hrl:=azB b.length i (qS s b (inR M) who)
 have hIu:=λy h=>aFX (s:=s) (b:=b) (G:=inR M) (who:=who) (k:=i) (y:=y) h
 have hIa:=aBR (s:=s) (b:=b) (G:=inR M) (who:=who) (k:=i)
 have hI0:oJ s b (inR M) who i 0=[]:=by simp [oJ]
 have hIl:=hI i
 have hreg:=hreg i his
 have hln:=ln i hib
 have hcl:=hcl i hib
 have hcol:=hcols i his
 have hf16:=f16 i his
 simp only [getElem!_pos b i hib,getElem!_pos s i his] at hIu hIa hIl hreg
 generalize jR b.length i (qS s b (inR M) who)=R at*
 focus ((repeat' first|apply wZ;rfl|show Cn _;constructor|exact rfl|apply wI;rfl|apply gE;omega|simp only [zql];omega|(intro h;simp at h)))
 refine amQ (id:=idT) (k:=i) 47 3 (aA _ _ _) hrow rfl (λidL hidL=> ?_)
 have hidL1:upd st idT (some (.arr 43 R)) idL=none:=hidL
 have hne:idL≠idT:=λe=>by rw [e,aA] at hidL1;cases hidL1
 have hidL0:st idL=none:=by rwa [aB hne] at hidL1
 clear hidL hidL1
 have hsub2:StSub (upd (upd st idL (some (.arr 47 ((oJ s b (inR M) who i 0).map Ln.cells)))) idT (some (.arr 43 (R.set i [.vec idL 3 0 (oJ s b (inR M) who i 0).length])))) (upd (upd (upd st idT (some (.arr 43 R))) idL (some (.arr 47 []))) idT (some (.arr 43 (R.set i [.vec idL 3 0 0])))):=by rw [hI0];exact aAK hne
 refine aC (X:={x:Nat×Nat//x.1<=b[i].lines.length/\st x.2=none/\x.2≠idT/\∀y (h:y<b[i].lines.length),y<x.1->aaG s[i] (inR M) i b[i].lines[y]=true}) (λy=>(((((((((((((St.nil 89 (upd (upd st y.1.2 (some (.arr 47 ((oJ s b (inR M) who i y.1.1).map Ln.cells)))) idT (some (.arr 43 (R.set i [.vec y.1.2 3 0 (oJ s b (inR M) who i y.1.1).length]))))).var 5 24 ((scC s))).var 9 80 (who.cells)).var 10 27 ([.val (.slice none 0 0)])).pv 12 (.fmap (aM nB bF (mE M)))).var 13 27 ([.vec idT 1 0 s.length])).pv 14 ((vi ((i:Nat))))).pv 37 (.seq (b.map Da.cells))).pv 38 ((vi (((b.map Da.cells).length:Nat))))).pv 39 ((vi ((i:Nat))))).pv 45 (.seq (b[i].lines.map Ln.cells))).pv 46 ((vi (((b[i].lines.map Ln.cells).length:Nat))))).pv 47 ((vi ((y.1.1:Nat)))))) (λy=>b[i].lines.length-y.1.1) ⟨(0,idL),by simp,hidL0,hne,by simp⟩ ?_ (λy=> ?_)
 ·dsimp only
  (repeat' first|exact .any hsub2|show Cn _;constructor|exact rfl)
 clear hidL0 hne hsub2 hsub
 obtain ⟨⟨y,idL⟩,hy,hidL0,hne,hyI⟩:=y
 dsimp only at hy hidL0 hne hyI
 dsimp only
 have hneT:=Ne.symm hne
 have hgr:(R.set i [.vec idL 3 0 (oJ s b (inR M) who i y).length])[i]?=some [.vec idL 3 0 (oJ s b (inR M) who i y).length]:=List.getElem?_set_self (by omega)
 have hIy:=hIl y
 by_cases hend2:b[i].lines.length<=y
 ·obtain rfl:y=b[i].lines.length:=by omega
  rw [hIa] at hgr⊢
  have hup:∀k (h:k<b.length),k<i+1->∀y (h:y<b[k].lines.length),aaG s[k]! (inR M) k b[k].lines[y]=true:=λk hk hki v hv=>by
   rcases zls.1 hki with q|q
   ·exact hIv k hk q v hv
   ·subst q;rw [getElem!_pos s k his];exact hyI v hv hv
  refine aqV (id:=idT) (idL:=idL) (k:=i) (aA _ _ _) hgr ((aB hne).trans (aA _ _ _)) qV (zql _) hneT ?_
  rw [List.set_set,hset]
  (repeat' first|(refine ⟨⟨i+1,by omega,hup⟩, ?_, ?_⟩)|show Cn (.s _ (St.nil _ _));refine .any ?_;exact Sub.nil _ _ _ (axK hidL0 hne rfl) rfl|apply wZ;rfl|show Cn _;constructor|exact rfl|omega|simp only [zql];omega|(intro h;simp at h))
 have hyl:y<b[i].lines.length:=by omega
 obtain ⟨l,hle⟩:∃l,b[i].lines[y]=l:=⟨_,rfl⟩
 have hlm:l∈b[i].lines:=hle▸zgm hyl
 have hgl:(b[i].lines.map Ln.cells)[y]?=some l.cells:=by rw [List.getElem?_map,zgg hyl,hle];rfl
 have hIu:=hIu y hyl
 rw [hle] at hIu
 have hyU:aaG s[i] (inR M) i l=true->∀v (h:v<b[i].lines.length),v<y+1->aaG s[i] (inR M) i b[i].lines[v]=true:=λh v hv hvy=>by
  rcases zls.1 hvy with q|q
  ·exact hyI v hv q
  ·subst q;rw [hle];exact h
 have hbad:aaG s[i] (inR M) i l=false->ajZ s b (inR M)=false:=λh=>aEA hib hyl (by rw [getElem!_pos s i his,hle];exact h)
 have hleft:=azC s[i] l M who (by omega) (by have:=(hcl l hlm).1;omega) (hcl l hlm).2 (λf hf=>hreg f hf l hlm) hcol
 unfold aBF at hleft
 cases hG:inR M ((i:Int),l.key) with
 |true=>
  rw [hG,zp rfl] at hIu
  have hU:=hyU (by unfold aaG;rw [hG];rfl)
  (repeat' first|apply lkS (M:=M) (k:=((i:Int),l.key));(iterate 5 rfl);rotate_left;rfl;rfl;rw [hG]|refine ⟨⟨(y+1,idL),by simp only;omega,hidL0,hne,hU⟩, ?_, ?_⟩;((dsimp only;rw [hIu]))|show Cn (.t _ _);exact Cn.t0|apply wZ;rfl|show Cn _;constructor|exact rfl|apply cN pk;(iterate 6 rfl);rotate_left;rfl;(intro hw;rfl);(intro hw;apply hgl<;>omega);(intro _;rfl);rfl|omega|simp only [zql];omega|(intro h;simp at h))
 |false=>
  rw [hG,zn (by simp)] at hIu
  cases hL:uE s[i] (inR M) l with
  |false=>
   rw [hL,zn (by simp)] at hleft
   have hb:=hbad (by unfold aaG;rw [hG,hL];rfl)
   (repeat' first|apply lkS (M:=M) (k:=((i:Int),l.key));(iterate 5 rfl);rotate_left;rfl;rfl;rw [hG]|apply wD pk [] [];kernel_rfl;rfl;rfl|(apply Cn.cf;focus ((apply hleft);done))|show Cn (.r _ _ _);refine .rr ?_;(exact .inl ⟨hb,rfl,aqF hidL0 hidT0⟩);done|apply wZ;rfl|show Cn _;constructor|exact rfl|apply cN pk;(iterate 6 rfl);rotate_left;rfl;(intro hw;rfl);(intro hw;apply hgl<;>omega);(intro _;rfl);rfl|apply wY;rfl|apply wI;rfl|apply gE;omega|simp only [zql];omega|(intro h;simp at h))
  |true=>
   rw [hL,zp rfl] at hleft
   have hU:=hyU (by unfold aaG;rw [hG,hL];rfl)
   have hlenU:(oJ s b (inR M) who i (y+1)).length=(oJ s b (inR M) who i y).length+1:=by rw [hIu,zla];rfl
   (repeat' first|apply wD (id:=17) pk [11,14] [8];kernel_rfl;rfl;rfl|apply wD (id:=14) pk [] [];kernel_rfl;rfl;rfl|apply lkS (M:=M) (k:=((i:Int),l.key));(iterate 5 rfl);rotate_left;rfl;rfl;rw [hG]|(apply Cn.cf;focus ((apply hleft);done))|refine ⟨⟨(y+1,id'),by simp only;omega,(sQ hid').2,Ne.symm (sQ hid').1,hU⟩, ?_, ?_⟩;((dsimp only))|show Cn (.s _ (St.nil _ _));refine .any ?_;exact Sub.nil _ _ _ (asU hidL0 hne (by rw [hIu]) (by rw [List.set_set,hlenU];rfl)) rfl|apply wZ;rfl|show Cn _;constructor|exact rfl|apply cN pk;(iterate 6 rfl);rotate_left;rfl;(intro hw;rfl);(intro hw;apply hgl<;>omega);(intro _;rfl);rfl|(apply apV pk (f:=Ln.cells) [kU s[i] (inR M) who l] 56;(iterate 9 rfl);((focus ((repeat (first|exact aA _ _ _|refine (aB ‹_›).trans ?_));done)));(omega);exact λ_=>rfl;exact λ_=>rfl;exact agT;((focus (simp;omega)));((focus (simp;omega)));rfl;intro id' hid')|apply ixA pk;(iterate 5 rfl);rotate_left;rfl;(intro hw;(exact (show _=((i:Nat):Int) from by omega)));(intro hw;(omega));rfl;(exact Nat.zero_add _)|apply ldX pk;rfl;rfl;rotate_left;rfl;exact aA _ _ _;rfl;exact hgr;rfl;rfl|have hq:=sQ hid';apply stX pk;rfl;rfl;exact (aB hq.1).trans ((aB hneT).trans (aA _ _ _));rfl;exact hgr;rfl;rfl|apply wY;rfl|apply wI;rfl|apply gE;omega|omega|simp only [zql];omega|(intro h;simp at h))
end
section
attribute [local irreducible] Ev PWp
set_option maxRecDepth 10000
set_option maxHeartbeats 4000000
def vT (rb:Bool) (s:Sc) (b:Bs) (z:R2) (who:Dt) (M:List R2):Bs×Int:=if rb=true then (if adQ b z=true then (if ajZ s b (inR M)=true then (yO s b (inR M) who,0) else ([],10)) else ([],4)) else ([],1)
def lU (o:Bs×Int):PV:= .tup [.agg (bsC o.1),(vi (o.2))]
theorem nY (e:Int):Wk (.tup [.agg [.val (.slice none 0 0)],(vi (e))]) (lU ([],e)):=Wk.tup (.cons (.agg (.cons Wk.nil .nil)) (.cons (zwr _) .nil))
theorem aE2 {f:FuncId} {args:List PV} {s:Sc} {b:Bs} {z:R2} {who:Dt} {M:List R2} {st:aD} (hz:adQ b z=true) (h:PC Tryz.prog f args st (aH4 s b who M st)):PC Tryz.prog f args st λr S=>r=lU (vT true s b z who M)/\S=st:=
 fS (sz:=1) h λp st' h=>by
  unfold vT
  rw [zp rfl,zp hz]
  rcases h with ⟨h1,rfl,h2⟩|⟨h1,id,rfl,h2,h3⟩
  ·rw [zn (by rw [h1];simp)]
   exact .inr ⟨_,_,nY 10,h2,rfl,rfl⟩
  ·rw [zp h1]
   exact .inl ⟨id,43,(yO s b (inR M) who).map Da.cells,_,st,h2,agX, .tup (.cons (.agg (.cons (fL (by simp [yO])) .nil)) (.cons .refl .nil)),h3,rfl,rfl⟩
theorem aHv {b:Bs} (h:∀k (h:k<b.length),b[k].lines.length<=100000):∀d∈b,d.lines.length<100000000000:=λd hd=>by obtain ⟨k,hk,rfl⟩:=zgo hd;have:=h k hk;omega
theorem aCM {s:Sc} {b:Bs} {rb:Bool} (hr:PF Tryz.prog 19 [.agg (scC s), .agg (bsC b)] (vb (rb))) (hF:rb=true->FolD s b) (z:R2) (who:Dt):PF Tryz.prog 116 [.agg (scC s), .agg (bsC b),(vi (z.1)),(vi (z.2)), .agg who.cells] (lU (vT rb s b z who (tV s b z))):=by
 cases rb with
 |false=>
  refine pF Tryz.func116 rfl (λst=> ?_)
  (repeat' first|exact Cn.any ⟨_,_,_,rfl,nY 1,zsr _,rfl,rfl⟩|apply wZ;rfl|show Cn _;constructor|(apply hr)|apply wY;rfl)
 |true=>
  have hFo:=hF rfl
  by_cases hz:adQ b z=true
  ·exact λst=>aE2 hz (aGX hFo hr z who hz st)
  ·have hk:=ajD hFo.toFol (aHv hFo.ln) z
   unfold aF5 at hk
   have hM:tV s b z=[]:=by unfold tV;rw [zn hz]
   unfold vT
   rw [zp rfl,zn hz]
   rw [hM] at hk
   refine pF Tryz.func116 rfl (λst=> ?_)
   (repeat' first|apply lnF pk;rfl;rfl;rfl;rotate_left;rfl;rfl|exact Cn.any ⟨_,_,_,rfl,nY 4,zsr _,rfl,rfl⟩|apply wZ;rfl|show Cn _;constructor|((first|apply hr|apply hk))|apply wY;rfl)
end
section
attribute [local irreducible] Ev PWp
set_option maxRecDepth 10000
set_option maxHeartbeats 4000000
variable {tx:Cl->Int}
theorem aCU {s:Sc} {b:Bs} (h:bH tx s b=true) {k:Nat} (hk:k<s.length) {f:Fr} (hf:f∈s[k].foreign) {l:Ln} (hl:l∈b[k]!.lines):fR l f.col:=λj hj e=>by
 obtain ⟨⟨h1,h2⟩,_⟩:=aU.1 h
 have hkb:k<b.length:=by omega
 rw [getElem!_pos b k hkb] at hl
 have hL:=rE h hkb hl
 have hfo:=avP h1 hk hf
 rw [hL.kind j hj,getElem!_pos s k hk]
 have:=hfo.kind
 rwa [show f.col.toNat=j by omega] at this
theorem aHD {s:Sc} {b:Bs} (h:bH tx s b=true) (hB:BsS 1000 b):Fol s b:=by
 obtain ⟨⟨h1,h2⟩,_⟩:=aU.1 h
 exact ⟨h2,jZ h1,λk hk=>arV h1 hk,λk hk f hf l hl=>aCU h hk hf hl,λk hk=>by have:=(hB.2 _ (zgm hk)).1;omega⟩
theorem aFa {s:Sc} {b:Bs} (h:bH tx s b=true) (hB:BsS 1000 b):FolD s b:=
 ⟨aHD h hB,λk hk=>by have:=(hB.2 _ (zgm hk)).1;omega,λk hk l hl=>by have:=(hB.2 _ (zgm hk)).2 l hl;exact ⟨by have:=this.2.1;omega,by have:=this.1;omega⟩,λk hk i j hi hj e=>aHz (aU.1 h).1.1 hk i j hi hj e⟩
end
end Go.Proofs.YtfablfldonhkiaaGreatDoor
