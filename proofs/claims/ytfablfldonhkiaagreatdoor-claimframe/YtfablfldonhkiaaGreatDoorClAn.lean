import Derived.Test.YtfablfldonhkiaaGreatDoorClAm
import Derived.Test.YtfablfldonhkiaaGreatDoorClAa
import Derived.Test.YtfablfldonhkiaaGreatDoorAbsSort
import Derived.Test.YtfablfldonhkiaaGreatDoorAbsG
import Derived.Test.YtfablfldonhkiaaGreatDoorAbsK
import Derived.Test.YtfablfldonhkiaaGreatDoorClAg
set_option linter.unusedSimpArgs false
set_option linter.unusedVariables false
namespace Go.Proofs.YtfablfldonhkiaaGreatDoor
open Go Go.Abs
section
attribute [local irreducible] Ev PWp
set_option maxRecDepth 10000
set_option maxHeartbeats 4000000
theorem asU (l:List Cl) (st:aD) (hl:l.length<1000000000000):PC Tryz.prog 118 [.seq (l.map Cl.cells)] st (LR 110 5 st (l.map Cl.cells)):=by
 refine pC Tryz.func118 rfl ?_
 (repeat' first|show Cn (.r _ _ _);refine .rr ?_;((first|exact .inr ⟨rfl,hb h,zsr _⟩|exact .inl ⟨id',by rw [zql],a,aA _ _ _,cD a⟩));done|apply wZ;rfl|show Cn _;constructor|(apply ap0 pk (f:=Cl.cells) l 64;(iterate 10 rfl);exact λ_=>rfl;exact λ_=>rfl;exact awC;(omega);(omega);rfl;intro id' a)|(apply aDp pk;(iterate 6 rfl);intro b hb)|intro h)
theorem agG (l:List Cl) (st:aD) (hl:l.length<1000000000000):PC Tryz.prog 118 [.seq (l.map Cl.cells)] st λp S=>∃id,p= .vec id 5 0 l.length/\st id=none/\S=upd st id (some (.arr 110 (l.map Cl.cells))):=
 yH (adI (asU l st hl)) λp st' ⟨id,a,b,c⟩=>⟨p,st',zwr _,zsr _,id,by rw [a,zql],b,c⟩
end
section
attribute [local irreducible] Ev PWp
set_option maxRecDepth 10000
set_option maxHeartbeats 4000000
section
variable {l:List Oper} {d:Md} {r:List Oper} {s:St} {Kt:St->Prop} {t:Nat} {ty:TypeId} {pos:String} {after:Array Edge} {gd:Option (Nat×Bool)}
theorem lkS {T e:TypeId} {x y:Operand} {w:Bool} {M:List R2} {k:R2} (hw:bI l ⟨some t, .lookup T x y false,ty,pos,after,gd⟩ s=some w) (hx:opd s x=some (.fmap (aX oA bF (mE M)))) (hy:opd s y=some (.agg (r2C k))) (hT:tiK tt T=some (.map 236 e)) (hz:pzv tt e=some (vb (false))) (hf:All (flagsI s w [x,y] [])) (hd:Nat.blt t s.n=true)
  (ht:cR d l r=true) (a:Ev Tryz.prog l d r (s.put (some t) w (.pv (vb (inR M k)))) Kt):Ev Tryz.prog l d (⟨some t, .lookup T x y false,ty,pos,after,gd⟩::r) s Kt:=by
 refine aJV pk ayU (f:=bF) hw hx hy hT hz hf hd ht rfl ?_
 have e:lW (vb (false)) bF false (bZ k (mE M))=(vb (inR M k)):=by
  by_cases h:k∈M
  ·rw [akR h];unfold inR;rw [decide_eq_true h];rfl
  ·rw [aeU h];unfold inR;rw [decide_eq_false h];rfl
 rw [e];exact a
end
def sZ (t:Tb) (G:R2->Bool) (l:Ln):Bool:=t.foreign.all λf=> !eF G l f||decide (f.act=2)
def azM (t:Tb) (G:R2->Bool) (l:Ln):Bool:=t.foreign.any (eF G l)
def eX (p:Fr->Bool) (fs:List Fr) (cs:List Cl):List Cl:=cs.mapIdx λc x=>if fs.any (λf=>decide (f.col=(c:Int))&&p f)=true then Cl.zero else x
def jS (t:Tb) (G:R2->Bool) (who:Dt) (l:Ln):Ln:=if azM t G l=true then ⟨l.key,eX (eF G l) t.foreign l.cells_,(cT l who).by_⟩ else l
theorem dF (p:Fr->Bool) (fs:List Fr) (cs:List Cl):(eX p fs cs).length=cs.length:=by simp [eX]
theorem oW {p:Fr->Bool} {fs:List Fr} {cs:List Cl} {j:Nat} (h:j<cs.length):(eX p fs cs)[j]'(by rw [dF];exact h)=if fs.any (λf=>decide (f.col=(j:Int))&&p f)=true then Cl.zero else cs[j]:=by simp [eX]
theorem aF9 {p:Fr->Bool} {fs:List Fr} {cs:List Cl} (h:fs.any p=false):eX p fs cs=cs:=by
 refine List.ext_getElem (dF ..) λj b a=> ?_;rw [oW a,zn];intro q;obtain ⟨f,hf,e⟩:=List.any_eq_true.1 q;rw [zba] at e;rw [List.any_eq_true.2 ⟨f,hf,e.2⟩] at h;cases h
theorem aHv {p:Fr->Bool} {fs:List Fr} {cs:List Cl} {i j:Nat} (hi:i<fs.length) (hp:p fs[i]=true) (hj:j<cs.length) (hc:fs[i].col=(j:Int)):eX p (fs.take (i+1)) cs=(eX p (fs.take i) cs).set j Cl.zero:=by
 refine List.ext_getElem (by rw [List.length_set,dF,dF]) λc a b=> ?_;rw [dF] at a;rw [oW a,List.getElem_set,List.take_succ_eq_append_getElem hi,List.any_append];by_cases e:j=c
 ·subst e
  rw [zp rfl,zp];simp [hc,hp]
 ·rw [zn e,oW a]
  have:([fs[i]].any λf=>decide (f.col=(c:Int))&&p f)=false:=by
   simp only [List.any_cons,List.any_nil,Bool.or_false,hc];rw [decide_eq_false (by omega)];rfl
  rw [this,Bool.or_false]
theorem aAn {p:Fr->Bool} {fs:List Fr} {cs:List Cl} {i:Nat} (hi:i<fs.length) (hp:p fs[i]=false):eX p (fs.take (i+1)) cs=eX p (fs.take i) cs:=by
 have e:∀c:Nat,((fs.take (i+1)).any λf=>decide (f.col=(c:Int))&&p f)=(fs.take i).any λf=>decide (f.col=(c:Int))&&p f:=λc=>by
  rw [List.take_succ_eq_append_getElem hi,List.any_append]
  simp only [List.any_cons,List.any_nil,hp,Bool.and_false,Bool.or_false]
 unfold eX;simp only [e]
theorem aD8 {p:Fr->Bool} {fs:List Fr} {i:Nat} (hi:i<fs.length):(fs.take (i+1)).any p=((fs.take i).any p||p fs[i]):=by
 rw [List.take_succ_eq_append_getElem hi,List.any_append];simp
def lnV (l:Ln) (who:Dt):Option Nat->List PV
 |none=>l.cells
 |some id=>[(vi (l.key)), .vec id 5 0 l.cells_.length, .seq ((cT l who).by_.map Dt.cells)]
def stO (st:aD) (cs:List Cl):Option Nat->aD
 |none=>st
 |some id=>upd st id (some (.arr 110 (cs.map Cl.cells)))
theorem aoR (l:Ln) (d:Dt):(cT l d).cells_=l.cells_/\(cT l d).key=l.key:=by
 unfold cT;split<;>exact ⟨rfl,rfl⟩
theorem aGo (l:Ln) (cs:List Cl) (a:List Dt) (c:Int) {st:aD} {id n:Nat} (b:st id=some (.arr 110 (cs.map Cl.cells))) (hn:cs.length=n) (h0:0<n) (h:fS ⟨l.key,cs,a⟩ c):PC Tryz.prog 90 [.agg [(vi (l.key)), .vec id 5 0 n, .seq (a.map Dt.cells)],(vi (c))] st λr S=>r=ptR (ptP ⟨l.key,cs,a⟩ c)/\S=st:=
 PC.borrow 0 b abH (by simpa [hn] using h0) (.cons (.agg (.cons .refl (.cons (fW hn) (.cons .refl .nil)))) (.cons .refl .nil)) (WkL.refl _) (gM ⟨l.key,cs,a⟩ c h) (by cases ptP ⟨l.key,cs,a⟩ c<;>rfl)
theorem avI {l:Ln} {c k:Int} (h:ptP l c=some k):∃j:Nat,c=j/\j<l.cells_.length:=by
 by_cases hc:0<=c/\c<l.cells_.length
 ·exact ⟨c.toNat,by omega,by omega⟩
 ·rw [aiU hc] at h;cases h
theorem aFQ {l:Ln} {p:Fr->Bool} {fs:List Fr} {c:Int} {a:List Dt} (h:∀f∈fs,f.col≠c):ptP ⟨l.key,eX p fs l.cells_,a⟩ c=ptP l c:=by
 by_cases hc:0<=c/\c<l.cells_.length
 ·obtain ⟨j,rfl⟩:∃j:Nat,c=j:=⟨c.toNat,by omega⟩
  have hj:j<l.cells_.length:=by omega
  have b:j<(eX p fs l.cells_).length:=by rw [dF];exact hj
  rw [akA hj,akA (l:=⟨l.key,eX p fs l.cells_,a⟩) b];have e:(eX p fs l.cells_)[j]=l.cells_[j]:=by
   rw [oW hj,zn];intro q;obtain ⟨f,hf,e⟩:=List.any_eq_true.1 q;rw [zba,zde] at e;exact h f hf e.1
  show (if (eX p fs l.cells_)[j].val.kind=1 then some (eX p fs l.cells_)[j].val.n else none)=_;rw [e]
 ·rw [aiU hc,aiU]
  show ¬(0<=c/\c<(eX p fs l.cells_).length);rwa [dF]
theorem aFY {l:Ln} {p:Fr->Bool} {fs:List Fr} {c:Int} {b:List Dt} (h:fS l c):fS ⟨l.key,eX p fs l.cells_,b⟩ c:=λj hj e=>by
 have a:j<(eX p fs l.cells_).length:=hj
 rw [dF] at a
 show (eX p fs l.cells_)[j].kind=0
 rw [oW a]
 split
 ·rfl
 ·exact h j a e
theorem aJe {p:Fr->Bool} {fs:List Fr} {i:Nat} {f:Fr} (b:∀j (h:j<fs.length),j<i->p fs[j]=true) (h:i<fs.length) (e:fs[i]=f) (hf:p f=true):∀j (h:j<fs.length),j<i+1->p fs[j]=true:=λj hj a=>by
 rcases zls.1 a with q|q
 ·exact b j hj q
 ·subst q;rw [e];exact hf
theorem wkz :Wk (.agg [(vi (0)),(vi (0)),(vi (0)), .val (.string e0), .val (.slice none 0 0)]) (.agg Cl.zero.cells):= .agg (.cons (zwr _) (.cons (zwr _) (.cons (zwr _) (.cons (zwr _) (.cons Wk.nil .nil)))))
def aJQ (st:aD) (t:Tb) (l:Ln) (M:List R2) (who:Dt) (r:PV) (S:aD):Prop:=
 (sZ t (inR M) l=false/\r= .tup [.agg [(vi (0)), .val (.slice none 0 0), .val (.slice none 0 0)],(vb (false))]/\StSub st S)\/(sZ t (inR M) l=true/\azM t (inR M) l=false/\r= .tup [.agg l.cells,(vb (true))]/\S=st)\/
 (sZ t (inR M) l=true/\azM t (inR M) l=true/\∃id,r= .tup [.agg (lnV l who (some id)),(vb (true))]/\st id=none/\S=upd st id (some (.arr 110 ((eX (eF (inR M) l) t.foreign l.cells_).map Cl.cells))))
theorem aFy (t:Tb) (l:Ln) (M:List R2) (who:Dt) (hf:t.foreign.length<1000000000000) (hc:l.cells_.length<1000000000000) (hb:l.by_.length<100000000000) (hR:∀f∈t.foreign,fS l f.col) (hD:∀i j (hi:i<t.foreign.length) (hj:j<t.foreign.length),t.foreign[i].col=t.foreign[j].col->i=j) (st:aD):
  PC Tryz.prog 177 [.agg t.cells, .agg l.cells, .fmap (aX oA bF (mE M)), .agg who.cells] st (aJQ st t l M who):=by
 have hw:=acZ l who hb
 obtain ⟨w1,w2⟩:=aoR l who
 have ew:(cT l who).cells=[(vi (l.key)), .seq (l.cells_.map Cl.cells), .seq ((cT l who).by_.map Dt.cells)]:=by show [(vi ((cT l who).key)), .seq ((cT l who).cells_.map Cl.cells),_]=_;rw [w1,w2]
 rw [ew] at hw
 have hcl:=agG l.cells_
 refine pC Tryz.func177 rfl ?_
 focus ((repeat' first|apply wZ;rfl|show Cn _;constructor))
 refine aC (X:={x:Nat×Option Nat//x.1<=t.foreign.length/\(∀j (h:j<t.foreign.length),j<x.1->(!eF (inR M) l t.foreign[j]||decide (t.foreign[j].act=2))=true)/\x.2.isSome=(t.foreign.take x.1).any (eF (inR M) l)/\∀id,x.2=some id->st id=none}) (λi=>(((((((((St.nil 61 (stO st (eX (eF (inR M) l) (t.foreign.take i.1.1) l.cells_) i.1.2)).pv 2 (.fmap (aX oA bF (mE M)))).var 5 47 (lnV l who i.1.2)).var 7 80 (who.cells)).var 8 47 ([(vi (0)), .val (.slice none 0 0), .val (.slice none 0 0)])).pv 10 ((vb (i.1.2.isSome)))).pv 16 (.seq (t.foreign.map Fr.cells))).pv 17 ((vi (((t.foreign.map Fr.cells).length:Nat))))).pv 18 ((vi ((i.1.1:Nat)))))) (λi=>t.foreign.length-i.1.1) ⟨(0,none),by simp,by simp,by simp,by simp⟩ ?_ (λi=> ?_)
 ·dsimp only [stO,lnV,Option.isSome]
  (repeat' first|show Cn (.t _ _);exact Cn.t0|show Cn _;constructor|exact rfl)
 obtain ⟨⟨i,o⟩,hi,hI,ho,hid⟩:=i
 simp only at hi hI ho hid
 dsimp only
 by_cases hend:t.foreign.length<=i
 ·have e1:sZ t (inR M) l=true:=zal.2 λf hf=>by
   obtain ⟨j,hj,rfl⟩:=zgo hf
   exact hI j hj (by omega)
  rw [ztl hend] at ho⊢
  cases o with
  |none=>
   dsimp only [stO,lnV,Option.isSome] at ho⊢
   have e2:azM t (inR M) l=false:=ho.symm
   (repeat' first|show Cn (.r _ _ _);refine .rr ?_;(exact .inr (.inl ⟨e1,e2,rfl,rfl⟩));done|apply wZ;rfl|show Cn _;constructor|simp only [zql];omega|(intro h;simp at h))
  |some id=>
   dsimp only [stO,lnV,Option.isSome] at ho⊢
   have e2:azM t (inR M) l=true:=ho.symm
   have hid:=hid id rfl
   (repeat' first|show Cn (.r _ _ _);refine .rr ?_;(exact .inr (.inr ⟨e1,e2,id,rfl,hid,rfl⟩));done|apply wZ;rfl|show Cn _;constructor|simp only [zql];omega|(intro h;simp at h))
 have hil:i<t.foreign.length:=by omega
 have hRf:=hR _ (zgm hil)
 have hsn:=aD8 (p:=eF (inR M) l) hil
 have hsame:=aAn (p:=eF (inR M) l) (cs:=l.cells_) hil
 have hup:=λj=>aHv (p:=eF (inR M) l) (cs:=l.cells_) (j:=j) hil
 have hne:∀f∈t.foreign.take i,f.col≠t.foreign[i].col:=λf hf e=>by
  obtain ⟨j,hj,rfl⟩:=zgo hf
  rw [zlt] at hj
  rw [List.getElem_take] at e
  have:=hD j i (by omega) hil e
  omega
 have hbad:(!eF (inR M) l t.foreign[i]||decide (t.foreign[i].act=2))=false->sZ t (inR M) l=false:=λh=>by
  unfold sZ
  rw [<-Bool.not_eq_true,zal]
  intro q
  rw [q _ (zgm hil)] at h;cases h
 obtain ⟨f,hfe⟩:∃f,t.foreign[i]=f:=⟨_,rfl⟩
 have hAU:=λh=>aJe (p:=λf=> !eF (inR M) l f||decide (f.act=2)) hI hil hfe h
 rw [hfe] at hRf hsn hsame hne hbad hup
 have hgf:(t.foreign.map Fr.cells)[i]?=some f.cells:=by rw [List.getElem?_map,zgg hil,hfe];rfl
 cases o with
 |none=>
  dsimp only [stO,lnV,Option.isSome] at ho⊢
  have hp:=gM l f.col hRf
  cases hpt:ptP l f.col with
  |none=>
   have hh:eF (inR M) l f=false:=ahT hpt
   have hU:=hAU (by rw [hh];rfl)
   have ho2:(none:Option Nat).isSome=(t.foreign.take (i+1)).any (eF (inR M) l):=by rw [hsn,hh,Bool.or_false];exact ho
   rw [hpt] at hp
   (repeat' first|apply lkS (M:=M) (k:=(f.table,0));(iterate 5 rfl);rotate_left;rfl;rfl|(apply Cn.cf;focus ((apply hp);done))|(refine ⟨⟨(i+1,none),by simp only;omega,hU,ho2,by simp⟩, ?_, ?_⟩)|show Cn (.t _ _);exact Cn.t0|apply wZ;rfl|show Cn _;constructor|exact rfl|apply dM pk;(iterate 6 rfl);rotate_left;rfl;(intro hw;rfl);(intro hw;apply hgf<;>omega);(intro _;rfl);rfl|apply wY;rfl|omega|simp only [zql];omega|(intro h;simp at h))
  |some k=>
   rw [hpt] at hp
   have hh:eF (inR M) l f=inR M (f.table,k):=ahJ hpt
   cases hG:inR M (f.table,k) with
   |false=>
    rw [hG] at hh
    have hU:=hAU (by rw [hh];rfl)
    have ho2:(none:Option Nat).isSome=(t.foreign.take (i+1)).any (eF (inR M) l):=by rw [hsn,hh,Bool.or_false];exact ho
    (repeat' first|apply lkS (M:=M) (k:=(f.table,k));(iterate 5 rfl);rotate_left;rfl;rfl;rw [hG]|(apply Cn.cf;focus ((apply hp);done))|(refine ⟨⟨(i+1,none),by simp only;omega,hU,ho2,by simp⟩, ?_, ?_⟩)|show Cn (.t _ _);exact Cn.t0|apply wZ;rfl|show Cn _;constructor|exact rfl|apply dM pk;(iterate 6 rfl);rotate_left;rfl;(intro hw;rfl);(intro hw;apply hgf<;>omega);(intro _;rfl);rfl|apply wY;rfl|omega|simp only [zql];omega|(intro h;simp at h))
   |true=>
    rw [hG] at hh
    by_cases ha:f.act=2
    ·have hU:=hAU (by rw [hh,decide_eq_true ha];rfl)
     obtain ⟨j,hj,hjl⟩:=avI hpt
     have hn0:eX (eF (inR M) l) (t.foreign.take i) l.cells_=l.cells_:=aF9 ho.symm
     have e1:eX (eF (inR M) l) (t.foreign.take (i+1)) l.cells_=l.cells_.set j Cl.zero:=by rw [hup j hh hjl hj,hn0]
     have ho2:∀id:Nat,(some id).isSome=(t.foreign.take (i+1)).any (eF (inR M) l):=λid=>by rw [hsn,hh,Bool.or_true];rfl
     have hgj:(l.cells_.map Cl.cells)[j]?=some (l.cells_[j]'hjl).cells:=by rw [List.getElem?_map,zgg hjl];rfl
     (repeat' first|apply lkS (M:=M) (k:=(f.table,k));(iterate 5 rfl);rotate_left;rfl;rfl;rw [hG]|(apply Cn.cf;focus (((first|apply hp|apply hw));done))|(apply cP;rfl;(apply (hcl st hc));rintro _ st' (⟨id,rfl,hid0,rfl⟩))|refine ⟨⟨(i+1,some id),by simp only;omega,hU,ho2 id,λ_ h=>by cases h;exact hid0⟩, ?_, ?_⟩;((dsimp only [stO,lnV,Option.isSome];rw [e1,List.map_set]))|show Cn (.t _ _);exact .any (cM (by (((simp only [St.pv,St.put,St.sst,St.setv,St.nil,St.var,eH]);(rfl)))))|apply wZ;rfl|show Cn _;constructor|exact rfl|apply dM pk;(iterate 6 rfl);rotate_left;rfl;(intro hw;rfl);(intro hw;apply hgf<;>omega);(intro _;rfl);rfl|apply ixA pk;(iterate 5 rfl);rotate_left;rfl;(intro hw;(exact (show _=((j:Nat):Int) from by omega)));(intro hw;(omega));rfl;(exact Nat.zero_add _)|apply aHP 57;rfl;exact wkz|apply stX pk;rfl;rfl;exact aA _ _ _;rfl;exact hgj;rfl;rfl|apply wY;rfl|omega|simp only [zql];omega|(intro h;simp at h)|intro h)
    ·have hb:=hbad (by rw [hh,decide_eq_false ha];rfl)
     (repeat' first|apply lkS (M:=M) (k:=(f.table,k));(iterate 5 rfl);rotate_left;rfl;rfl;rw [hG]|(apply Cn.cf;focus ((apply hp);done))|show Cn (.r _ _ _);refine .rr ?_;(exact .inl ⟨hb,rfl,zsr _⟩);done|apply wZ;rfl|show Cn _;constructor|apply dM pk;(iterate 6 rfl);rotate_left;rfl;(intro hw;rfl);(intro hw;apply hgf<;>omega);(intro _;rfl);rfl|apply wY;rfl|omega|simp only [zql];omega|(intro h;simp at h)|intro h)
 |some id=>
  dsimp only [stO,lnV,Option.isSome] at ho⊢
  have hid0:=hid id rfl
  have h0:0<l.cells_.length:=by
   obtain ⟨f',_,hf'⟩:=List.any_eq_true.1 ho.symm
   obtain ⟨k,hk,_⟩:=amP.1 hf'
   obtain ⟨j,_,hj⟩:=avI hk
   omega
  have hlenN:(eX (eF (inR M) l) (t.foreign.take i) l.cells_).length=l.cells_.length:=dF ..
  have hp:=aGo l (eX (eF (inR M) l) (t.foreign.take i) l.cells_) (cT l who).by_ f.col (st:=upd st id (some (.arr 110 ((eX (eF (inR M) l) (t.foreign.take i) l.cells_).map Cl.cells)))) (id:=id) (aA _ _ _) hlenN h0 (aFY hRf)
  rw [aFQ hne] at hp
  have ho2:(some id).isSome=(t.foreign.take (i+1)).any (eF (inR M) l):=by rw [hsn,<-ho];rfl
  cases hpt:ptP l f.col with
  |none=>
   have hh:eF (inR M) l f=false:=ahT hpt
   have hU:=hAU (by rw [hh];rfl)
   have e1:=hsame hh
   rw [hpt] at hp
   (repeat' first|apply lkS (M:=M) (k:=(f.table,0));(iterate 5 rfl);rotate_left;rfl;rfl|(apply cP;rfl;(apply hp);rintro _ st' (⟨rfl,rfl⟩))|refine ⟨⟨(i+1,some id),by simp only;omega,hU,ho2,λ_ h=>by cases h;exact hid0⟩, ?_, ?_⟩;((dsimp only [stO,lnV,Option.isSome];rw [e1]))|show Cn (.t _ _);exact Cn.t0|apply wZ;rfl|show Cn _;constructor|exact rfl|apply dM pk;(iterate 6 rfl);rotate_left;rfl;(intro hw;rfl);(intro hw;apply hgf<;>omega);(intro _;rfl);rfl|apply wY;rfl|omega|simp only [zql];omega|(intro h;simp at h))
  |some k=>
   rw [hpt] at hp
   have hh:eF (inR M) l f=inR M (f.table,k):=ahJ hpt
   cases hG:inR M (f.table,k) with
   |false=>
    rw [hG] at hh
    have hU:=hAU (by rw [hh];rfl)
    have e1:=hsame hh
    (repeat' first|apply lkS (M:=M) (k:=(f.table,k));(iterate 5 rfl);rotate_left;rfl;rfl;rw [hG]|(apply cP;rfl;(apply hp);rintro _ st' (⟨rfl,rfl⟩))|refine ⟨⟨(i+1,some id),by simp only;omega,hU,ho2,λ_ h=>by cases h;exact hid0⟩, ?_, ?_⟩;((dsimp only [stO,lnV,Option.isSome];rw [e1]))|show Cn (.t _ _);exact Cn.t0|apply wZ;rfl|show Cn _;constructor|exact rfl|apply dM pk;(iterate 6 rfl);rotate_left;rfl;(intro hw;rfl);(intro hw;apply hgf<;>omega);(intro _;rfl);rfl|apply wY;rfl|omega|simp only [zql];omega|(intro h;simp at h))
   |true=>
    rw [hG] at hh
    by_cases ha:f.act=2
    ·have hU:=hAU (by rw [hh,decide_eq_true ha];rfl)
     obtain ⟨j,hj,hjl⟩:=avI hpt
     have e1:=hup j hh hjl hj
     have hjn:j<(eX (eF (inR M) l) (t.foreign.take i) l.cells_).length:=by rw [hlenN];exact hjl
     have hgj:((eX (eF (inR M) l) (t.foreign.take i) l.cells_).map Cl.cells)[j]?=some ((eX (eF (inR M) l) (t.foreign.take i) l.cells_)[j]'hjn).cells:=by rw [List.getElem?_map,zgg hjn];rfl
     (repeat' first|apply lkS (M:=M) (k:=(f.table,k));(iterate 5 rfl);rotate_left;rfl;rfl;rw [hG]|(apply cP;rfl;(apply hp);rintro _ st' (⟨rfl,rfl⟩))|refine ⟨⟨(i+1,some id),by simp only;omega,hU,ho2,λ_ h=>by cases h;exact hid0⟩, ?_, ?_⟩;((dsimp only [stO,lnV,Option.isSome];rw [e1,List.map_set]))|show Cn (.t _ _);exact .any (cM (by (((simp only [St.pv,St.put,St.sst,St.setv,St.nil,St.var,eH]);(rfl)))))|apply wZ;rfl|show Cn _;constructor|exact rfl|apply dM pk;(iterate 6 rfl);rotate_left;rfl;(intro hw;rfl);(intro hw;apply hgf<;>omega);(intro _;rfl);rfl|apply ixA pk;(iterate 5 rfl);rotate_left;rfl;(intro hw;(exact (show _=((j:Nat):Int) from by omega)));(intro hw;(omega));rfl;(exact Nat.zero_add _)|apply aHP 57;rfl;exact wkz|apply stX pk;rfl;rfl;exact aA _ _ _;rfl;exact hgj;rfl;rfl|apply wY;rfl|omega|simp only [zql];omega|(intro h;simp at h)|intro h)
    ·have hb:=hbad (by rw [hh,decide_eq_false ha];rfl)
     (repeat' first|apply lkS (M:=M) (k:=(f.table,k));(iterate 5 rfl);rotate_left;rfl;rfl;rw [hG]|(apply cP;rfl;(apply hp);rintro _ st' (⟨rfl,rfl⟩))|show Cn (.r _ _ _);refine .rr ?_;(exact .inl ⟨hb,rfl,cU hid0⟩);done|apply wZ;rfl|show Cn _;constructor|apply dM pk;(iterate 6 rfl);rotate_left;rfl;(intro hw;rfl);(intro hw;apply hgf<;>omega);(intro _;rfl);rfl|apply wY;rfl|omega|simp only [zql];omega|(intro h;simp at h)|intro h)
def aCK (t:Tb) (G:R2->Bool) (who:Dt) (l:Ln):PV:=if sZ t G l=true then .tup [.agg (jS t G who l).cells,(vb (true))] else .tup [.agg Ln.zero.cells,(vb (false))]
theorem aAL (t:Tb) (l:Ln) (M:List R2) (who:Dt) (hf:t.foreign.length<1000000000000) (hc:l.cells_.length<1000000000000) (hb:l.by_.length<100000000000) (g:∀f∈t.foreign,fS l f.col) (e:∀i j (hi:i<t.foreign.length) (hj:j<t.foreign.length),t.foreign[i].col=t.foreign[j].col->i=j):
  PF Tryz.prog 177 [.agg t.cells, .agg l.cells, .fmap (aX oA bF (mE M)), .agg who.cells] (aCK t (inR M) who l):=λst=>
 gF (sz:=5) (aFy t l M who hf hc hb g e st) λp st' h=>by
  unfold aCK
  rcases h with ⟨a,rfl,b⟩|⟨a,b,rfl,rfl⟩|⟨a,b,id,rfl,c,rfl⟩
  ·rw [zn (by rw [a];simp)]
   exact .inr ⟨_,_,Wk.tup (.cons (.agg (.cons (zwr _) (.cons Wk.nil (.cons Wk.nil .nil)))) (.cons (zwr _) .nil)),b,rfl,rfl⟩
  ·rw [zp a]
   unfold jS;rw [zn (by rw [b];simp)];exact .inr ⟨_,_,zwr _,zsr _,rfl,rfl⟩
  ·rw [zp a]
   unfold jS;rw [zp b];exact .inl ⟨id,110,(eX (eF (inR M) l) t.foreign l.cells_).map Cl.cells,_,st,aA _ _ _,abH, .tup (.cons (.agg (.cons .refl (.cons (fW (dF ..)) (.cons .refl .nil)))) (.cons .refl .nil)),cD c,rfl,rfl⟩
end
section
attribute [local irreducible] Ev PWp
set_option maxRecDepth 10000
set_option maxHeartbeats 4000000
theorem aG4 (s:Sc) (hl:s.length<1000000000000) (st:aD):PC Tryz.prog 56 [.agg (scC s)] st λr S=>∃id,r= .agg [.vec id 1 0 s.length]/\st id=none/\S=upd st id (some (.arr 43 ((List.replicate s.length ()).map acM))):=by
 refine pC Tryz.func56 rfl ?_
 (repeat' first|show Cn (.r _ _ _);refine .rr ?_;(exact ⟨id,rfl,a,rfl⟩);done|apply wZ;rfl|show Cn _;constructor|(apply aGt pk () (f:=acM) (n:=s.length) (B:=24);(iterate 11 rfl);(focus (simp;done));(focus (simp;done));exact aiT;omega;omega;intro id a))
def kK (n k:Nat) (f:Nat->List Ln):List (List PV):=(List.range n).map λj=>if j<k then [.seq ((f j).map Ln.cells)] else [.val (.slice none 0 0)]
theorem auY (n:Nat) (f:Nat->List Ln):kK n 0 f=(List.replicate n ()).map acM:=by
 refine List.ext_getElem (by simp [kK]) λj a b=> ?_;simp [kK,acM]
theorem aBM {n k:Nat} (h:k<n) (f:Nat->List Ln):(kK n k f)[k]?=some [.val (.slice none 0 0)]:=by simp [kK,h]
theorem aAC {n k:Nat} (f:Nat->List Ln):(kK n k f).set k [.seq ((f k).map Ln.cells)]=kK n (k+1) f:=by
 refine List.ext_getElem (by simp [kK]) λj a b=> ?_;rw [List.getElem_set];simp only [kK,List.getElem_map,List.getElem_range];by_cases e:k=j
 ·subst e;rw [zp rfl,zp (Nat.lt_succ_self _)]
 ·rw [zn e]
  by_cases h:j<k
  ·rw [zp h,zp (by omega)]
  ·rw [zn h,zn (by omega)]
theorem aBf (n:Nat) (f:Nat->List Ln):kK n n f=((List.range n).map λj=>(⟨f j⟩:Da)).map Da.cells:=by
 unfold kK;rw [List.map_map];refine List.map_congr_left λj hj=> ?_;rw [zp (List.mem_range.1 hj)];rfl
theorem aAI (n k:Nat) (f:Nat->List Ln):(kK n k f).length=n:=by simp [kK]
section
variable {st:aD} {idT idL id':Nat}
theorem aBR {x a o:Option AObj} (h:idL≠idT):StSub (upd (upd st idL a) idT o) (upd (upd (upd st idT x) idL a) idT o):=cM (by rw [eS (Ne.symm h),eH])
theorem avC {a b b' o g i:Option AObj} (h:st idL=none) (n:idL≠idT) (k:b'=b) (m:i=g):StSub (upd (upd st id' b') idT i) (upd (upd (upd (upd (upd st idL a) idT o) idL none) id' b) idT g):=λj=>by
 subst k;subst m
 by_cases c:j=idT
 ·subst c;right;rw [aA,aA]
 ·rw [aB c,aB c]
  by_cases e:j=id'
  ·subst e;right;rw [aA,aA]
  ·rw [aB e,aB e]
   by_cases f:j=idL
   ·subst f;left;exact h
   ·right;rw [aB f,aB c,aB f]
theorem azO {a o e f:Option AObj} (h:st idL=none) (i:idL≠idT) (g:f=e):StSub (upd st idT f) (upd (upd (upd (upd st idL a) idT o) idL none) idT e):=λj=>by
 subst g
 by_cases b:j=idT
 ·subst b;right;rw [aA,aA]
 ·rw [aB b,aB b]
  by_cases c:j=idL
  ·subst c;left;exact h
  ·right;rw [aB c,aB b,aB c]
theorem asS {a o:Option AObj} (h:st idL=none) (b:st idT=none):StSub st (upd (upd st idL a) idT o):=λj=>by
 cases hj:st j with
 |none=>exact .inl rfl
 |some x=>
  right;rw [aB (λe=>by subst e;rw [b] at hj;cases hj),aB (λe=>by subst e;rw [h] at hj;cases hj),hj]
theorem uE {a o:AObj} (h:upd (upd st idL (some a)) idT (some o) id'=none):idT≠id'/\st id'=none:=by
 by_cases e:id'=idT
 ·rw [e,aA] at h;cases h
 ·rw [aB e] at h
  refine ⟨Ne.symm e, ?_⟩;by_cases b:id'=idL
  ·rw [b,aA] at h;cases h
  ·rwa [aB b] at h
end
def pH (s:Sc) (b:Bs) (G:R2->Bool) (who:Dt) (k y:Nat):List Ln:=((b[k]!.lines.take y).filter λl=> !G ((k:Int),l.key)).map (jS s[k]! G who)
def pN (s:Sc) (b:Bs) (G:R2->Bool) (who:Dt) (k:Nat):List Ln:=(b[k]!.lines.filter λl=> !G ((k:Int),l.key)).map (jS s[k]! G who)
def kZ (s:Sc) (b:Bs) (G:R2->Bool) (who:Dt):Bs:=(List.range b.length).map λk=>⟨pN s b G who k⟩
def aaG (t:Tb) (G:R2->Bool) (k:Nat) (l:Ln):Bool:=G ((k:Int),l.key)||sZ t G l
def aaI (s:Sc) (b:Bs) (G:R2->Bool):Bool:=(List.range b.length).all λk=>b[k]!.lines.all (aaG s[k]! G k)
theorem aHa {s:Sc} {b:Bs} {G:R2->Bool} {who:Dt} {k y:Nat} (h:y<b[k]!.lines.length):pH s b G who k (y+1)=if G ((k:Int),b[k]!.lines[y].key)=true then pH s b G who k y else pH s b G who k y++[jS s[k]! G who b[k]!.lines[y]]:=by
 unfold pH;rw [List.take_succ_eq_append_getElem h,List.filter_append,List.map_append,adF];cases hg:G ((k:Int),b[k]!.lines[y].key)<;>simp
theorem aCW {s:Sc} {b:Bs} {G:R2->Bool} {who:Dt} {k:Nat}:pH s b G who k b[k]!.lines.length=pN s b G who k:=by unfold pH pN;rw [List.take_length]
theorem aEa (s:Sc) (b:Bs) (G:R2->Bool) (who:Dt) (k y:Nat):(pH s b G who k y).length<=b[k]!.lines.length:=by
 unfold pH;rw [zql];exact Nat.le_trans (List.length_filter_le ..) (by rw [zlt];omega)
theorem aFF {s:Sc} {b:Bs} {G:R2->Bool} {k y:Nat} (hk:k<b.length) (hy:y<b[k].lines.length) (h:aaG s[k]! G k b[k].lines[y]=false):aaI s b G=false:=by
 unfold aaI;rw [<-Bool.not_eq_true,zal];intro q;have:=q k (List.mem_range.2 hk);rw [getElem!_pos b k hk] at this;have:=zal.1 this _ (zgm hy);rw [h] at this;cases this
structure FolD (s:Sc) (b:Bs):Prop extends Fol s b where
 ln:∀k (h:k<b.length),b[k].lines.length<=100000
 cl:∀k (h:k<b.length),∀l∈b[k].lines,l.cells_.length<100000000000/\l.by_.length<100000000000
 cols:∀k (h:k<s.length),∀i j (hi:i<s[k].foreign.length) (hj:j<s[k].foreign.length),s[k].foreign[i].col=s[k].foreign[j].col->i=j
def aJP (s:Sc) (b:Bs) (who:Dt) (M:List R2) (st:aD) (r:PV) (S:aD):Prop:=
 (aaI s b (inR M)=false/\r= .tup [.agg [.val (.slice none 0 0)],(vi (10))]/\StSub st S)\/(aaI s b (inR M)=true/\∃id,r= .tup [.agg [.vec id 1 0 b.length],(vi (0))]/\S id=some (.arr 43 ((kZ s b (inR M) who).map Da.cells))/\StSub st (upd S id none))
theorem aH9 {s:Sc} {b:Bs} (E:FolD s b) (hr:PF Tryz.prog 19 [.agg (scC s), .agg (bsC b)] (vb (true))) (z:R2) (who:Dt) (hz:uO b z=true) (st:aD):PC Tryz.prog 116 [.agg (scC s), .agg (bsC b),(vi (z.1)),(vi (z.2)), .agg who.cells] st (aJP s b who (lI s b z) st):=by
 have hk:=alO E.toFol (λd hd=>by obtain ⟨k,hk,rfl⟩:=zgo hd;have:=E.ln k hk;omega) z;unfold aHi at hk;have hM0:0<(lI s b z).length:=by
  unfold lI;rw [zp hz];exact List.length_pos_of_mem ((aCd E.len (nT.1 hz)).me z rfl)
 obtain ⟨⟨L,s16,f16,o,hlns⟩,ln,F,P⟩:=E;have hnew:=aG4 s (by omega);generalize lI s b z=M at*;refine pC Tryz.func116 rfl ?_;have C:aX oA bF (mE M)≠[]:=λe=>by
  have:=congrArg List.length e
  unfold aX mE at this
  rw [zql,zql] at this
  simp only [List.length_nil] at this;omega
 have hI:∀k y,(pH s b (inR M) who k y).length<=b[k]!.lines.length:=λk y=>aEa s b (inR M) who k y
 focus ((repeat' first|apply lnF pk;rfl;rfl;rfl;rotate_left;rfl;rfl|(apply Cn.cf;focus (((first|apply hr|apply hk));done))|(apply cP;rfl;(apply (hnew st));rintro _ st' (⟨idT,rfl,hidT,rfl⟩))|apply wZ;rfl|show Cn _;constructor|apply wY;rfl|((exfalso;first|exact C h|fail))|(intro h;simp at h)))
 have A:st idT=none:=hidT;have O:StSub (upd st idT (some (.arr 43 (kK b.length 0 (pN s b (inR M) who))))) (upd st idT (some (.arr 43 ((List.replicate s.length ()).map acM)))):=by rw [auY,L];exact zsr _
 refine aC (X:={x:Nat//x<=b.length/\∀k (h:k<b.length),k<x->∀y (h:y<b[k].lines.length),aaG s[k]! (inR M) k b[k].lines[y]=true}) (λi=>(((((((((St.nil 89 (upd st idT (some (.arr 43 (kK b.length i.1 (pN s b (inR M) who)))))).var 5 24 ((scC s))).var 9 80 (who.cells)).var 10 27 ([.val (.slice none 0 0)])).pv 12 (.fmap (aX oA bF (mE M)))).var 13 27 ([.vec idT 1 0 s.length])).pv 37 (.seq (b.map Da.cells))).pv 38 ((vi (((b.map Da.cells).length:Nat))))).pv 39 ((vi ((i.1:Nat)))))) (λi=>b.length-i.1) ⟨0,by omega,by simp⟩ ?_ (λi=> ?_)
 ·(repeat' first|exact .any O|show Cn _;constructor|exact rfl)
 obtain ⟨i,hi,W⟩:=i;dsimp only;by_cases hend:b.length<=i
 ·obtain rfl:i=b.length:=by omega
  have hmay:aaI s b (inR M)=true:=by
   unfold aaI;rw [zal];intro k hk;have hk:=List.mem_range.1 hk;rw [getElem!_pos b k hk,zal];intro l hl;obtain ⟨y,hy,rfl⟩:=zgo hl;exact W k hk hk y hy
  rw [aBf]
  (repeat' first|show Cn (.r _ _ _);refine .rr ?_;(exact .inr ⟨hmay,idT,by rw [L],aA _ _ _,cD A⟩);done|apply wZ;rfl|show Cn _;constructor|simp only [zql];omega|(intro h;simp at h))
 have u:i<b.length:=by omega
 have p:i<s.length:=by omega
 have hrow:=aBM u (pN s b (inR M) who);have hset:=aAC (n:=b.length) (k:=i) (pN s b (inR M) who);have hrl:=aAI b.length i (pN s b (inR M) who);have j:=λy h=>aHa (s:=s) (b:=b) (G:=inR M) (who:=who) (k:=i) (y:=y) h;have U:=aCW (s:=s) (b:=b) (G:=inR M) (who:=who) (k:=i);have hI0:pH s b (inR M) who i 0=[]:=by simp [pH]
 have V:=hI i;have o:=o i p;have hln:=ln i u;have F:=F i u;have Z:=P i p;have hf16:=f16 i p;simp only [getElem!_pos b i u,getElem!_pos s i p] at j U V o;generalize kK b.length i (pN s b (inR M) who)=R at*
 focus ((repeat' first|apply wZ;rfl|show Cn _;constructor|exact rfl|apply wI;rfl|apply gE;omega|simp only [zql];omega|(intro h;simp at h)))
 refine apP (id:=idT) (k:=i) 47 3 (aA _ _ _) hrow rfl (λidL K=> ?_);have m:upd st idT (some (.arr 43 R)) idL=none:=K;have g:idL≠idT:=λe=>by rw [e,aA] at m;cases m
 have a:st idL=none:=by rwa [aB g] at m
 clear K m;have D:StSub (upd (upd st idL (some (.arr 47 ((pH s b (inR M) who i 0).map Ln.cells)))) idT (some (.arr 43 (R.set i [.vec idL 3 0 (pH s b (inR M) who i 0).length])))) (upd (upd (upd st idT (some (.arr 43 R))) idL (some (.arr 47 []))) idT (some (.arr 43 (R.set i [.vec idL 3 0 0])))):=by rw [hI0];exact aBR g
 refine aC (X:={x:Nat×Nat//x.1<=b[i].lines.length/\st x.2=none/\x.2≠idT/\∀y (h:y<b[i].lines.length),y<x.1->aaG s[i] (inR M) i b[i].lines[y]=true}) (λy=>(((((((((((((St.nil 89 (upd (upd st y.1.2 (some (.arr 47 ((pH s b (inR M) who i y.1.1).map Ln.cells)))) idT (some (.arr 43 (R.set i [.vec y.1.2 3 0 (pH s b (inR M) who i y.1.1).length]))))).var 5 24 ((scC s))).var 9 80 (who.cells)).var 10 27 ([.val (.slice none 0 0)])).pv 12 (.fmap (aX oA bF (mE M)))).var 13 27 ([.vec idT 1 0 s.length])).pv 14 ((vi ((i:Nat))))).pv 37 (.seq (b.map Da.cells))).pv 38 ((vi (((b.map Da.cells).length:Nat))))).pv 39 ((vi ((i:Nat))))).pv 45 (.seq (b[i].lines.map Ln.cells))).pv 46 ((vi (((b[i].lines.map Ln.cells).length:Nat))))).pv 47 ((vi ((y.1.1:Nat)))))) (λy=>b[i].lines.length-y.1.1) ⟨(0,idL),by simp,a,g,by simp⟩ ?_ (λy=> ?_)
 ·dsimp only
  (repeat' first|exact .any D|show Cn _;constructor|exact rfl)
 clear a g D O;obtain ⟨⟨y,idL⟩,hy,a,g,T⟩:=y;dsimp only at hy a g T;dsimp only;have N:=Ne.symm g;have H:(R.set i [.vec idL 3 0 (pH s b (inR M) who i y).length])[i]?=some [.vec idL 3 0 (pH s b (inR M) who i y).length]:=List.getElem?_set_self (by omega);have hIy:=V y;by_cases hend2:b[i].lines.length<=y
 ·obtain rfl:y=b[i].lines.length:=by omega
  rw [U] at H⊢;have hup:∀k (h:k<b.length),k<i+1->∀y (h:y<b[k].lines.length),aaG s[k]! (inR M) k b[k].lines[y]=true:=λk hk hki v hv=>by
   rcases zls.1 hki with q|q
   ·exact W k hk q v hv
   ·subst q;rw [getElem!_pos s k p];exact T v hv hv
  refine atE (id:=idT) (idL:=idL) (k:=i) (aA _ _ _) H ((aB g).trans (aA _ _ _)) rS (zql _) N ?_;rw [List.set_set,hset]
  (repeat' first|(refine ⟨⟨i+1,by omega,hup⟩, ?_, ?_⟩)|show Cn (.s _ (St.nil _ _));refine .any ?_;exact Sub.nil _ _ _ (azO a g rfl) rfl|apply wZ;rfl|show Cn _;constructor|exact rfl|omega|simp only [zql];omega|(intro h;simp at h))
 have I:y<b[i].lines.length:=by omega
 obtain ⟨l,B⟩:∃l,b[i].lines[y]=l:=⟨_,rfl⟩;have C:l∈b[i].lines:=B▸zgm I;have Q:(b[i].lines.map Ln.cells)[y]?=some l.cells:=by rw [List.getElem?_map,zgg I,B];rfl
 have j:=j y I;rw [B] at j;have hyU:aaG s[i] (inR M) i l=true->∀v (h:v<b[i].lines.length),v<y+1->aaG s[i] (inR M) i b[i].lines[v]=true:=λh v hv hvy=>by
  rcases zls.1 hvy with q|q
  ·exact T v hv q
  ·subst q;rw [B];exact h
 have Y:aaG s[i] (inR M) i l=false->aaI s b (inR M)=false:=λh=>aFF u I (by rw [getElem!_pos s i p,B];exact h);have c:=aAL s[i] l M who (by omega) (by have:=(F l C).1;omega) (F l C).2 (λf hf=>o f hf l C) Z;unfold aCK at c;cases J:inR M ((i:Int),l.key) with
 |true=>
  rw [J,zp rfl] at j;have hU:=hyU (by unfold aaG;rw [J];rfl)
  (repeat' first|apply lkS (M:=M) (k:=((i:Int),l.key));(iterate 5 rfl);rotate_left;rfl;rfl;rw [J]|refine ⟨⟨(y+1,idL),by simp only;omega,a,g,hU⟩, ?_, ?_⟩;((dsimp only;rw [j]))|show Cn (.t _ _);exact Cn.t0|apply wZ;rfl|show Cn _;constructor|exact rfl|apply dM pk;(iterate 6 rfl);rotate_left;rfl;(intro hw;rfl);(intro hw;apply Q<;>omega);(intro _;rfl);rfl|omega|simp only [zql];omega|(intro h;simp at h))
 |false=>
  rw [J,zn (by simp)] at j;cases hL:sZ s[i] (inR M) l with
  |false=>
   rw [hL,zn (by simp)] at c;have hb:=Y (by unfold aaG;rw [J,hL];rfl)
   (repeat' first|apply lkS (M:=M) (k:=((i:Int),l.key));(iterate 5 rfl);rotate_left;rfl;rfl;rw [J]|apply wD pk [] [];kernel_rfl;rfl;rfl|(apply Cn.cf;focus ((apply c);done))|show Cn (.r _ _ _);refine .rr ?_;(exact .inl ⟨hb,rfl,asS a A⟩);done|apply wZ;rfl|show Cn _;constructor|exact rfl|apply dM pk;(iterate 6 rfl);rotate_left;rfl;(intro hw;rfl);(intro hw;apply Q<;>omega);(intro _;rfl);rfl|apply wY;rfl|apply wI;rfl|apply gE;omega|simp only [zql];omega|(intro h;simp at h))
  |true=>
   rw [hL,zp rfl] at c;have hU:=hyU (by unfold aaG;rw [J,hL];rfl);have S:(pH s b (inR M) who i (y+1)).length=(pH s b (inR M) who i y).length+1:=by rw [j,zla];rfl
   (repeat' first|apply wD (id:=17) pk [11,14] [8];kernel_rfl;rfl;rfl|apply wD (id:=14) pk [] [];kernel_rfl;rfl;rfl|apply lkS (M:=M) (k:=((i:Int),l.key));(iterate 5 rfl);rotate_left;rfl;rfl;rw [J]|(apply Cn.cf;focus ((apply c);done))|refine ⟨⟨(y+1,id'),by simp only;omega,(uE w).2,Ne.symm (uE w).1,hU⟩, ?_, ?_⟩;((dsimp only))|show Cn (.s _ (St.nil _ _));refine .any ?_;exact Sub.nil _ _ _ (avC a g (by rw [j]) (by rw [List.set_set,S];rfl)) rfl|apply wZ;rfl|show Cn _;constructor|exact rfl|apply dM pk;(iterate 6 rfl);rotate_left;rfl;(intro hw;rfl);(intro hw;apply Q<;>omega);(intro _;rfl);rfl|(apply apV pk (f:=Ln.cells) [jS s[i] (inR M) who l] 56;(iterate 9 rfl);((focus ((repeat (first|exact aA _ _ _|refine (aB ‹_›).trans ?_));done)));(omega);exact λ_=>rfl;exact λ_=>rfl;exact aiV;((focus (simp;omega)));((focus (simp;omega)));rfl;intro id' w)|apply ixA pk;(iterate 5 rfl);rotate_left;rfl;(intro hw;(exact (show _=((i:Nat):Int) from by omega)));(intro hw;(omega));rfl;(exact Nat.zero_add _)|apply ldX pk;rfl;rfl;rotate_left;rfl;exact aA _ _ _;rfl;exact H;rfl;rfl|have hq:=uE w;apply stX pk;rfl;rfl;exact (aB hq.1).trans ((aB N).trans (aA _ _ _));rfl;exact H;rfl;rfl|apply wY;rfl|apply wI;rfl|apply gE;omega|omega|simp only [zql];omega|(intro h;simp at h))
end
section
attribute [local irreducible] Ev PWp
set_option maxRecDepth 10000
set_option maxHeartbeats 4000000
def tY (a:Bool) (s:Sc) (b:Bs) (z:R2) (who:Dt) (M:List R2):Bs×Int:=if a=true then (if uO b z=true then (if aaI s b (inR M)=true then (kZ s b (inR M) who,0) else ([],10)) else ([],4)) else ([],1)
def nG (o:Bs×Int):PV:= .tup [.agg (bsC o.1),(vi (o.2))]
theorem oV (e:Int):Wk (.tup [.agg [.val (.slice none 0 0)],(vi (e))]) (nG ([],e)):=Wk.tup (.cons (.agg (.cons Wk.nil .nil)) (.cons (zwr _) .nil))
theorem aF8 {f:FuncId} {args:List PV} {s:Sc} {b:Bs} {z:R2} {who:Dt} {M:List R2} {st:aD} (hz:uO b z=true) (h:PC Tryz.prog f args st (aJP s b who M st)):PC Tryz.prog f args st λr S=>r=nG (tY true s b z who M)/\S=st:=
 gF (sz:=1) h λp st' h=>by
  unfold tY
  rw [zp rfl,zp hz]
  rcases h with ⟨a,rfl,c⟩|⟨a,id,rfl,c,e⟩
  ·rw [zn (by rw [a];simp)]
   exact .inr ⟨_,_,oV 10,c,rfl,rfl⟩
  ·rw [zp a]
   exact .inl ⟨id,43,(kZ s b (inR M) who).map Da.cells,_,st,c,ajA, .tup (.cons (.agg (.cons (fW (by simp [kZ])) .nil)) (.cons .refl .nil)),e,rfl,rfl⟩
theorem aI0 {b:Bs} (h:∀k (h:k<b.length),b[k].lines.length<=100000):∀d∈b,d.lines.length<100000000000:=λd hd=>by obtain ⟨k,hk,rfl⟩:=zgo hd;have:=h k hk;omega
theorem aDR {s:Sc} {b:Bs} {c:Bool} (e:PF Tryz.prog 19 [.agg (scC s), .agg (bsC b)] (vb (c))) (f:c=true->FolD s b) (z:R2) (who:Dt):PF Tryz.prog 116 [.agg (scC s), .agg (bsC b),(vi (z.1)),(vi (z.2)), .agg who.cells] (nG (tY c s b z who (lI s b z))):=by
 cases c with
 |false=>
  refine pF Tryz.func116 rfl (λst=> ?_)
  (repeat' first|exact Cn.any ⟨_,_,_,rfl,oV 1,zsr _,rfl,rfl⟩|apply wZ;rfl|show Cn _;constructor|(apply e)|apply wY;rfl)
 |true=>
  have a:=f rfl;by_cases hz:uO b z=true
  ·exact λst=>aF8 hz (aH9 a e z who hz st)
  ·have hk:=alO a.toFol (aI0 a.ln) z
   unfold aHi at hk;have g:lI s b z=[]:=by unfold lI;rw [zn hz]
   unfold tY;rw [zp rfl,zn hz];rw [g] at hk;refine pF Tryz.func116 rfl (λst=> ?_)
   (repeat' first|apply lnF pk;rfl;rfl;rfl;rotate_left;rfl;rfl|exact Cn.any ⟨_,_,_,rfl,oV 4,zsr _,rfl,rfl⟩|apply wZ;rfl|show Cn _;constructor|((first|apply e|apply hk))|apply wY;rfl)
end
section
attribute [local irreducible] Ev PWp
set_option maxRecDepth 10000
set_option maxHeartbeats 4000000
variable {tx:Cl->Int}
theorem aD1 {s:Sc} {b:Bs} (h:aV tx s b=true) {k:Nat} (hk:k<s.length) {f:Fr} (hf:f∈s[k].foreign) {l:Ln} (hl:l∈b[k]!.lines):fS l f.col:=λj hj e=>by
 obtain ⟨⟨g,i⟩,_⟩:=aI.1 h
 have a:k<b.length:=by omega
 rw [getElem!_pos b k a] at hl
 have hL:=sG h a hl
 have c:=axQ g hk hf
 rw [hL.kind j hj,getElem!_pos s k hk]
 have:=c.kind
 rwa [show f.col.toNat=j by omega] at this
theorem aJc {s:Sc} {b:Bs} (h:aV tx s b=true) (e:BsS 1000 b):Fol s b:=by
 obtain ⟨⟨a,c⟩,_⟩:=aI.1 h;exact ⟨c,oH a,λk hk=>auC a hk,λk hk f hf l hl=>aD1 h hk hf hl,λk hk=>by have:=(e.2 _ (zgm hk)).1;omega⟩
theorem aGh {s:Sc} {b:Bs} (h:aV tx s b=true) (a:BsS 1000 b):FolD s b:=
 ⟨aJc h a,λk hk=>by have:=(a.2 _ (zgm hk)).1;omega,λk hk l hl=>by have:=(a.2 _ (zgm hk)).2 l hl;exact ⟨by have:=this.2.1;omega,by have:=this.1;omega⟩,λk hk i j hi hj e=>aI6 (aI.1 h).1.1 hk i j hi hj e⟩
theorem abG {s:Sc} {b:Bs} (hb:b.length=s.length) {z y:R2}:inR (lI s b z) y=true↔uO b z=true/\Reach s b z y:=by
 unfold inR lI;rw [zde];by_cases hz:uO b z=true
 ·rw [zp hz,aGL hb (nT.1 hz)]
  exact ⟨λh=>⟨hz,h⟩,λh=>h.2⟩
 ·rw [zn hz]
  exact ⟨λh=>(by cases h),λh=>absurd h.1 hz⟩
end
end Go.Proofs.YtfablfldonhkiaaGreatDoor
