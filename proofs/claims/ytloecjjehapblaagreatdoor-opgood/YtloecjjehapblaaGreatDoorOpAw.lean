import Derived.Test.YtloecjjehapblaaGreatDoorOpAv
import Derived.Test.YtloecjjehapblaaGreatDoorAbsK
set_option linter.unusedSimpArgs false
set_option linter.unusedVariables false
namespace Go.Proofs.YtloecjjehapblaaGreatDoor
open Go Go.Abs
attribute [local irreducible] Ev PWp
set_option maxRecDepth 10000
set_option maxHeartbeats 4000000
section
variable {l:List Oper} {d:Md} {r:List Oper} {s:St} {Kt:St->Prop} {t:Nat} {ty:TypeId} {pos:String} {after:Array Edge} {gd:Option (Nat×Bool)}
theorem lkS {T e:TypeId} {x y:Operand} {w:Bool} {M:List R2} {k:R2} (hw:bL l ⟨some t, .lookup T x y false,ty,pos,after,gd⟩ s=some w) (hx:opd s x=some (.fmap (aY mQ bF (mE M)))) (hy:opd s y=some (.agg (r2C k))) (hT:tiK tt T=some (.map 96 e)) (hz:pzv tt e=some (PV.val (Value.bool (false)))) (hf:All (flagsI s w [x,y] [])) (hd:Nat.blt t s.n=true)
  (ht:cY d l r=true) (kk:Ev Tryz.prog l d r (s.put (some t) w (.pv (PV.val (Value.bool (inR M k))))) Kt):Ev Tryz.prog l d (⟨some t, .lookup T x y false,ty,pos,after,gd⟩::r) s Kt:=by
 refine aHa pk asR (f:=bF) hw hx hy hT hz hf hd ht rfl ?_
 have e:kY (PV.val (Value.bool (false))) bF false (bX k (mE M))=(PV.val (Value.bool (inR M k))):=by
  by_cases h:k∈M
  ·rw [agN h];unfold inR;rw [decide_eq_true h];rfl
  ·rw [abK h];unfold inR;rw [decide_eq_false h];rfl
 rw [e];exact kk
end
def tH (t:Tb) (G:R2->Bool) (l:Ln):Bool:=t.foreign.all λf=> !eE G l f||decide (f.act=2)
def ayC (t:Tb) (G:R2->Bool) (l:Ln):Bool:=t.foreign.any (eE G l)
def eO (p:Fr->Bool) (fs:List Fr) (cs:List Cl):List Cl:=cs.mapIdx λc x=>if fs.any (λf=>decide (f.col=(c:Int))&&p f)=true then Cl.zero else x
def kT (t:Tb) (G:R2->Bool) (who:Dt) (l:Ln):Ln:=if ayC t G l=true then ⟨l.key,eO (eE G l) t.foreign l.cells_,(dD l who).by_⟩ else l
theorem dE (p:Fr->Bool) (fs:List Fr) (cs:List Cl):(eO p fs cs).length=cs.length:=by simp [eO]
theorem nL {p:Fr->Bool} {fs:List Fr} {cs:List Cl} {j:Nat} (h:j<cs.length):(eO p fs cs)[j]'(by rw [dE];exact h)=if fs.any (λf=>decide (f.col=(j:Int))&&p f)=true then Cl.zero else cs[j]:=by simp [eO]
theorem aCC {p:Fr->Bool} {fs:List Fr} {cs:List Cl} (h:fs.any p=false):eO p fs cs=cs:=by
 refine List.ext_getElem (dE ..) λj h1 h2=> ?_
 rw [nL h2,if_neg]
 intro q
 obtain ⟨f,hf,e⟩:=List.any_eq_true.1 q
 rw [zba] at e
 rw [List.any_eq_true.2 ⟨f,hf,e.2⟩] at h;cases h
theorem aDK {p:Fr->Bool} {fs:List Fr} {cs:List Cl} {i j:Nat} (hi:i<fs.length) (hp:p fs[i]=true) (hj:j<cs.length) (hc:fs[i].col=(j:Int)):eO p (fs.take (i+1)) cs=(eO p (fs.take i) cs).set j Cl.zero:=by
 refine List.ext_getElem (by rw [List.length_set,dE,dE]) λc h1 h2=> ?_
 rw [dE] at h1
 rw [nL h1,List.getElem_set,List.take_succ_eq_append_getElem hi,List.any_append]
 by_cases e:j=c
 ·subst e
  rw [if_pos rfl,if_pos]
  simp [hc,hp]
 ·rw [if_neg e,nL h1]
  have:([fs[i]].any λf=>decide (f.col=(c:Int))&&p f)=false:=by
   simp only [List.any_cons,List.any_nil,Bool.or_false,hc]
   rw [decide_eq_false (by omega)];rfl
  rw [this,Bool.or_false]
theorem auH {p:Fr->Bool} {fs:List Fr} {cs:List Cl} {i:Nat} (hi:i<fs.length) (hp:p fs[i]=false):eO p (fs.take (i+1)) cs=eO p (fs.take i) cs:=by
 have e:∀c:Nat,((fs.take (i+1)).any λf=>decide (f.col=(c:Int))&&p f)=(fs.take i).any λf=>decide (f.col=(c:Int))&&p f:=λc=>by
  rw [List.take_succ_eq_append_getElem hi,List.any_append]
  simp only [List.any_cons,List.any_nil,hp,Bool.and_false,Bool.or_false]
 unfold eO
 simp only [e]
theorem aAY {p:Fr->Bool} {fs:List Fr} {i:Nat} (hi:i<fs.length):(fs.take (i+1)).any p=((fs.take i).any p||p fs[i]):=by
 rw [List.take_succ_eq_append_getElem hi,List.any_append];simp
def lnV (l:Ln) (who:Dt):Option Nat->List PV
 |none=>l.cells
 |some id=>[(PV.val (Value.int .i64 (l.key))), .vec id 5 0 l.cells_.length, .seq ((dD l who).by_.map Dt.cells)]
def stO (st:aJ) (cs:List Cl):Option Nat->aJ
 |none=>st
 |some id=>upd st id (some (.arr 80 (cs.map Cl.cells)))
theorem akD (l:Ln) (d:Dt):(dD l d).cells_=l.cells_/\(dD l d).key=l.key:=by
 unfold dD
 split<;>exact ⟨rfl,rfl⟩
theorem aCO (l:Ln) (cs:List Cl) (bys:List Dt) (c:Int) {st:aJ} {id n:Nat} (hst:st id=some (.arr 80 (cs.map Cl.cells))) (hn:cs.length=n) (h0:0<n) (h:xF ⟨l.key,cs,bys⟩ c):PC Tryz.prog 311 [.agg [(PV.val (Value.int .i64 (l.key))), .vec id 5 0 n, .seq (bys.map Dt.cells)],(PV.val (Value.int .i64 (c)))] st λr S=>r=ptR (ptP ⟨l.key,cs,bys⟩ c)/\S=st:=
 PC.borrow 0 hst yK (by simpa [hn] using h0) (.cons (.agg (.cons .refl (.cons (gJ hn) (.cons .refl .nil)))) (.cons .refl .nil)) (WkL.refl _) (oM ⟨l.key,cs,bys⟩ c h) (by cases ptP ⟨l.key,cs,bys⟩ c<;>rfl)
theorem apW {l:Ln} {c k:Int} (h:ptP l c=some k):∃j:Nat,c=j/\j<l.cells_.length:=by
 by_cases hc:0<=c/\c<l.cells_.length
 ·exact ⟨c.toNat,by omega,by omega⟩
 ·rw [afE hc] at h;cases h
theorem aCn {l:Ln} {p:Fr->Bool} {fs:List Fr} {c:Int} {bys:List Dt} (h:∀f∈fs,f.col≠c):ptP ⟨l.key,eO p fs l.cells_,bys⟩ c=ptP l c:=by
 by_cases hc:0<=c/\c<l.cells_.length
 ·obtain ⟨j,rfl⟩:∃j:Nat,c=j:=⟨c.toNat,by omega⟩
  have hj:j<l.cells_.length:=by omega
  have hj2:j<(eO p fs l.cells_).length:=by rw [dE];exact hj
  rw [anY hj,anY (l:=⟨l.key,eO p fs l.cells_,bys⟩) hj2]
  have e:(eO p fs l.cells_)[j]=l.cells_[j]:=by
   rw [nL hj,if_neg]
   intro q
   obtain ⟨f,hf,e⟩:=List.any_eq_true.1 q
   rw [zba,zde] at e
   exact h f hf e.1
  show (if (eO p fs l.cells_)[j].val.kind=1 then some (eO p fs l.cells_)[j].val.n else none)=_
  rw [e]
 ·rw [afE hc,afE]
  show ¬(0<=c/\c<(eO p fs l.cells_).length)
  rwa [dE]
theorem aCt {l:Ln} {p:Fr->Bool} {fs:List Fr} {c:Int} {bys:List Dt} (h:xF l c):xF ⟨l.key,eO p fs l.cells_,bys⟩ c:=λj hj e=>by
 have hj2:j<(eO p fs l.cells_).length:=hj
 rw [dE] at hj2
 show (eO p fs l.cells_)[j].kind=0
 rw [nL hj2]
 split
 ·rfl
 ·exact h j hj2 e
theorem aE5 {p:Fr->Bool} {fs:List Fr} {i:Nat} {f:Fr} (hI:∀j (h:j<fs.length),j<i->p fs[j]=true) (h:i<fs.length) (e:fs[i]=f) (hf:p f=true):∀j (h:j<fs.length),j<i+1->p fs[j]=true:=λj hj hji=>by
 rcases Nat.lt_succ_iff_lt_or_eq.1 hji with q|q
 ·exact hI j hj q
 ·subst q;rw [e];exact hf
theorem wkz :Wk (.agg [(PV.val (Value.int .i64 (0))),(PV.val (Value.int .i64 (0))),(PV.val (Value.int .i64 (0))), .val (.string e0), .val (.slice none 0 0)]) (.agg Cl.zero.cells):= .agg (.cons (zwr _) (.cons (zwr _) (.cons (zwr _) (.cons (zwr _) (.cons Wk.nil .nil)))))
def aFQ (st:aJ) (t:Tb) (l:Ln) (M:List R2) (who:Dt) (r:PV) (S:aJ):Prop:=
 (tH t (inR M) l=false/\r= .tup [.agg [(PV.val (Value.int .i64 (0))), .val (.slice none 0 0), .val (.slice none 0 0)],(PV.val (Value.bool (false)))]/\StSub st S)\/(tH t (inR M) l=true/\ayC t (inR M) l=false/\r= .tup [.agg l.cells,(PV.val (Value.bool (true)))]/\S=st)\/
 (tH t (inR M) l=true/\ayC t (inR M) l=true/\∃id,r= .tup [.agg (lnV l who (some id)),(PV.val (Value.bool (true)))]/\st id=none/\S=upd st id (some (.arr 80 ((eO (eE (inR M) l) t.foreign l.cells_).map Cl.cells))))
theorem aB5 (t:Tb) (l:Ln) (M:List R2) (who:Dt) (hf:t.foreign.length<1000000000000) (hc:l.cells_.length<1000000000000) (hb:l.by_.length<100000000000) (hR:∀f∈t.foreign,xF l f.col) (hD:∀i j (hi:i<t.foreign.length) (hj:j<t.foreign.length),t.foreign[i].col=t.foreign[j].col->i=j) (st:aJ):
  PC Tryz.prog 238 [.agg t.cells, .agg l.cells, .fmap (aY mQ bF (mE M)), .agg who.cells] st (aFQ st t l M who):=by
 have hw:=aaA l who hb
 obtain ⟨w1,w2⟩:=akD l who
 have ew:(dD l who).cells=[(PV.val (Value.int .i64 (l.key))), .seq (l.cells_.map Cl.cells), .seq ((dD l who).by_.map Dt.cells)]:=by show [(PV.val (Value.int .i64 ((dD l who).key))), .seq ((dD l who).cells_.map Cl.cells),_]=_;rw [w1,w2]
 rw [ew] at hw
 have hcl:=acX l.cells_
 refine bZ aF Tryz.func238 (by kernel_rfl) rfl rfl rfl rfl ?_
 focus ((try apply wO pk;rfl);(repeat' (show All _;constructor)))
 refine aK (X:={x:Nat×Option Nat//x.1<=t.foreign.length/\(∀j (h:j<t.foreign.length),j<x.1->(!eE (inR M) l t.foreign[j]||decide (t.foreign[j].act=2))=true)/\x.2.isSome=(t.foreign.take x.1).any (eE (inR M) l)/\∀id,x.2=some id->st id=none}) (λi=>(((((((((St.nil 61 (stO st (eO (eE (inR M) l) (t.foreign.take i.1.1) l.cells_) i.1.2)).pv 2 (.fmap (aY mQ bF (mE M)))).var 5 67 (lnV l who i.1.2)).var 7 59 (who.cells)).var 8 67 ([(PV.val (Value.int .i64 (0))), .val (.slice none 0 0), .val (.slice none 0 0)])).pv 10 ((PV.val (Value.bool (i.1.2.isSome))))).pv 16 (.seq (t.foreign.map Fr.cells))).pv 17 ((PV.val (Value.int .i64 (((t.foreign.map Fr.cells).length:Nat)))))).pv 18 ((PV.val (Value.int .i64 ((i.1.1:Nat))))))) (λi=>t.foreign.length-i.1.1) ⟨(0,none),by simp,by simp,by simp,by simp⟩ ?_ (λi=> ?_)
 ·dsimp only [stO,lnV,Option.isSome]
  (((repeat (first|refine Sub.pv ?_ rfl|refine Sub.var ?_ rfl rfl));(exact Sub.nil _ _ _ (zsr _) rfl)))
 obtain ⟨⟨i,o⟩,hi,hI,ho,hid⟩:=i
 simp only at hi hI ho hid
 dsimp only
 by_cases hend:t.foreign.length<=i
 ·have e1:tH t (inR M) l=true:=zal.2 λf hf=>by
   obtain ⟨j,hj,rfl⟩:=List.getElem_of_mem hf
   exact hI j hj (by omega)
  rw [List.take_of_length_le hend] at ho⊢
  cases o with
  |none=>
   dsimp only [stO,lnV,Option.isSome] at ho⊢
   have e2:ayC t (inR M) l=false:=ho.symm
   (try apply wO pk;rfl);(repeat' first|show All _;constructor|apply wC pk;rfl;rfl|refine aA rfl ?_ ?_<;>intro h<;>(try simp at h)<;>try omega|(try refine aC ?_);((refine ⟨_,_,_,rfl,zwr _,zsr _, ?_⟩;(exact .inr (.inl ⟨e1,e2,rfl,rfl⟩));done)))
  |some id=>
   dsimp only [stO,lnV,Option.isSome] at ho⊢
   have e2:ayC t (inR M) l=true:=ho.symm
   have hid:=hid id rfl
   (try apply wO pk;rfl);(repeat' first|show All _;constructor|apply wC pk;rfl;rfl|refine aA rfl ?_ ?_<;>intro h<;>(try simp at h)<;>try omega|(try refine aC ?_);((refine ⟨_,_,_,rfl,zwr _,zsr _, ?_⟩;(exact .inr (.inr ⟨e1,e2,id,rfl,hid,rfl⟩));done)))
 have hil:i<t.foreign.length:=by omega
 have hRf:=hR _ (zgm hil)
 have hsn:=aAY (p:=eE (inR M) l) hil
 have hsame:=auH (p:=eE (inR M) l) (cs:=l.cells_) hil
 have hup:=λj=>aDK (p:=eE (inR M) l) (cs:=l.cells_) (j:=j) hil
 have hne:∀f∈t.foreign.take i,f.col≠t.foreign[i].col:=λf hf e=>by
  obtain ⟨j,hj,rfl⟩:=List.getElem_of_mem hf
  rw [zlt] at hj
  rw [List.getElem_take] at e
  have:=hD j i (by omega) hil e
  omega
 have hbad:(!eE (inR M) l t.foreign[i]||decide (t.foreign[i].act=2))=false->tH t (inR M) l=false:=λh=>by
  unfold tH
  rw [<-Bool.not_eq_true,zal]
  intro q
  rw [q _ (zgm hil)] at h;cases h
 obtain ⟨f,hfe⟩:∃f,t.foreign[i]=f:=⟨_,rfl⟩
 have hAU:=λh=>aE5 (p:=λf=> !eE (inR M) l f||decide (f.act=2)) hI hil hfe h
 rw [hfe] at hRf hsn hsame hne hbad hup
 have hgf:(t.foreign.map Fr.cells)[i]?=some f.cells:=by rw [List.getElem?_map,List.getElem?_eq_getElem hil,hfe];rfl
 cases o with
 |none=>
  dsimp only [stO,lnV,Option.isSome] at ho⊢
  have hp:=oM l f.col hRf
  cases hpt:ptP l f.col with
  |none=>
   have hh:eE (inR M) l f=false:=aeF hpt
   have hU:=hAU (by rw [hh];rfl)
   have ho2:(none:Option Nat).isSome=(t.foreign.take (i+1)).any (eE (inR M) l):=by rw [hsn,hh,Bool.or_false];exact ho
   rw [hpt] at hp
   (try apply wO pk;rfl);(repeat' first|apply lkS (M:=M) (k:=(f.table,0));(iterate 5 rfl);rotate_left;rfl;rfl|show All _;constructor|show Imp _ _;constructor|show ImpX _ _ _ _;constructor|apply wC pk;rfl;rfl|apply wE pk;rfl;rfl|refine aA rfl ?_ ?_<;>intro h<;>(try simp at h)<;>try omega|(apply aH;rfl;rfl;rfl;(intro _;apply hp<;>first|assumption|omega);rotate_left;rfl;rfl)|apply aN pk;(iterate 6 rfl);rotate_left;rfl;(intro hw;rfl);(intro hw;apply hgf<;>omega);(intro _;rfl);rfl|(refine ⟨⟨(i+1,none),by simp only;omega,hU,ho2,by simp⟩, ?_,by simp only;omega⟩;(((repeat (first|refine Sub.pv ?_ rfl|refine Sub.var ?_ rfl rfl));(exact Sub.nil _ _ _ (zsr _) rfl))))|intros;(try simp only [zql]);omega)
  |some k=>
   rw [hpt] at hp
   have hh:eE (inR M) l f=inR M (f.table,k):=adW hpt
   cases hG:inR M (f.table,k) with
   |false=>
    rw [hG] at hh
    have hU:=hAU (by rw [hh];rfl)
    have ho2:(none:Option Nat).isSome=(t.foreign.take (i+1)).any (eE (inR M) l):=by rw [hsn,hh,Bool.or_false];exact ho
    (try apply wO pk;rfl);(repeat' first|apply lkS (M:=M) (k:=(f.table,k));(iterate 5 rfl);rotate_left;rfl;rfl;rw [hG]|show All _;constructor|show Imp _ _;constructor|show ImpX _ _ _ _;constructor|apply wC pk;rfl;rfl|apply wE pk;rfl;rfl|refine aA rfl ?_ ?_<;>intro h<;>(try simp at h)<;>try omega|(apply aH;rfl;rfl;rfl;(intro _;apply hp<;>first|assumption|omega);rotate_left;rfl;rfl)|apply aN pk;(iterate 6 rfl);rotate_left;rfl;(intro hw;rfl);(intro hw;apply hgf<;>omega);(intro _;rfl);rfl|(refine ⟨⟨(i+1,none),by simp only;omega,hU,ho2,by simp⟩, ?_,by simp only;omega⟩;(((repeat (first|refine Sub.pv ?_ rfl|refine Sub.var ?_ rfl rfl));(exact Sub.nil _ _ _ (zsr _) rfl))))|intros;(try simp only [zql]);omega)
   |true=>
    rw [hG] at hh
    by_cases ha:f.act=2
    ·have hU:=hAU (by rw [hh,decide_eq_true ha];rfl)
     obtain ⟨j,hj,hjl⟩:=apW hpt
     have hn0:eO (eE (inR M) l) (t.foreign.take i) l.cells_=l.cells_:=aCC ho.symm
     have e1:eO (eE (inR M) l) (t.foreign.take (i+1)) l.cells_=l.cells_.set j Cl.zero:=by rw [hup j hh hjl hj,hn0]
     have ho2:∀id:Nat,(some id).isSome=(t.foreign.take (i+1)).any (eE (inR M) l):=λid=>by rw [hsn,hh,Bool.or_true];rfl
     have hgj:(l.cells_.map Cl.cells)[j]?=some (l.cells_[j]'hjl).cells:=by rw [List.getElem?_map,List.getElem?_eq_getElem hjl];rfl
     (try apply wO pk;rfl);(repeat' first|apply lkS (M:=M) (k:=(f.table,k));(iterate 5 rfl);rotate_left;rfl;rfl;rw [hG]|show All _;constructor|show Imp _ _;constructor|show ImpX _ _ _ _;constructor|apply wC pk;rfl;rfl|apply wE pk;rfl;rfl|refine aA rfl ?_ ?_<;>intro h<;>(try simp at h)<;>try omega|(apply aH;rfl;rfl;rfl;(intro _;(first|apply hp|apply hw)<;>first|assumption|omega);rotate_left;rfl;rfl)|apply aN pk;(iterate 6 rfl);rotate_left;rfl;(intro hw;rfl);(intro hw;apply hgf<;>omega);(intro _;rfl);rfl|apply ixA pk;(iterate 5 rfl);rotate_left;rfl;(intro hw;(exact (show _=((j:Nat):Int) from by omega)));(intro hw;(omega));rfl;(exact Nat.zero_add _)|(apply cB;rfl;rfl;(apply (hcl st hc)<;>first|exact aB _ _ _|assumption|omega|(fail));rfl;rfl;rfl;intro _ st' hR;obtain ⟨id,rfl,hid0,rfl⟩:=hR)|apply aDY 57;rfl;exact wkz|apply stX pk;rfl;rfl;exact aB _ _ _;rfl;exact hgj;rfl;rfl|(refine ⟨⟨(i+1,some id),by simp only;omega,hU,ho2 id,λ_ h=>by cases h;exact hid0⟩, ?_,by simp only;omega⟩;((dsimp only [stO,lnV,Option.isSome];rw [e1,List.map_set]));(((repeat (first|refine Sub.pv ?_ rfl|refine Sub.var ?_ rfl rfl));(exact Sub.nil _ _ _ (eY (by first|rfl|exact fT ‹_›|((simp only [St.pv,St.put,St.sst,St.setv,St.nil,St.var,fF]);first|done|rfl))) rfl))))|intros;(try simp only [zql]);omega)
    ·have hb:=hbad (by rw [hh,decide_eq_false ha];rfl)
     (try apply wO pk;rfl);(repeat' first|apply lkS (M:=M) (k:=(f.table,k));(iterate 5 rfl);rotate_left;rfl;rfl;rw [hG]|show All _;constructor|show Imp _ _;constructor|show ImpX _ _ _ _;constructor|apply wC pk;rfl;rfl|apply wE pk;rfl;rfl|refine aA rfl ?_ ?_<;>intro h<;>(try simp at h)<;>try omega|(try refine aC ?_);((refine ⟨_,_,_,rfl,zwr _,zsr _, ?_⟩;(exact .inl ⟨hb,rfl,zsr _⟩);done))|(apply aH;rfl;rfl;rfl;(intro _;apply hp<;>first|assumption|omega);rotate_left;rfl;rfl)|apply aN pk;(iterate 6 rfl);rotate_left;rfl;(intro hw;rfl);(intro hw;apply hgf<;>omega);(intro _;rfl);rfl)
 |some id=>
  dsimp only [stO,lnV,Option.isSome] at ho⊢
  have hid0:=hid id rfl
  have h0:0<l.cells_.length:=by
   obtain ⟨f',_,hf'⟩:=List.any_eq_true.1 ho.symm
   obtain ⟨k,hk,_⟩:=zN.1 hf'
   obtain ⟨j,_,hj⟩:=apW hk
   omega
  have hlenN:(eO (eE (inR M) l) (t.foreign.take i) l.cells_).length=l.cells_.length:=dE ..
  have hp:=aCO l (eO (eE (inR M) l) (t.foreign.take i) l.cells_) (dD l who).by_ f.col (st:=upd st id (some (.arr 80 ((eO (eE (inR M) l) (t.foreign.take i) l.cells_).map Cl.cells)))) (id:=id) (aB _ _ _) hlenN h0 (aCt hRf)
  rw [aCn hne] at hp
  have ho2:(some id).isSome=(t.foreign.take (i+1)).any (eE (inR M) l):=by rw [hsn,<-ho];rfl
  cases hpt:ptP l f.col with
  |none=>
   have hh:eE (inR M) l f=false:=aeF hpt
   have hU:=hAU (by rw [hh];rfl)
   have e1:=hsame hh
   rw [hpt] at hp
   (try apply wO pk;rfl);(repeat' first|apply lkS (M:=M) (k:=(f.table,0));(iterate 5 rfl);rotate_left;rfl;rfl|show All _;constructor|show Imp _ _;constructor|show ImpX _ _ _ _;constructor|apply wC pk;rfl;rfl|apply wE pk;rfl;rfl|refine aA rfl ?_ ?_<;>intro h<;>(try simp at h)<;>try omega|apply aN pk;(iterate 6 rfl);rotate_left;rfl;(intro hw;rfl);(intro hw;apply hgf<;>omega);(intro _;rfl);rfl|(apply cB;rfl;rfl;(apply hp<;>first|exact aB _ _ _|assumption|omega|(fail));rfl;rfl;rfl;intro _ st' hR;obtain ⟨rfl,rfl⟩:=hR)|(refine ⟨⟨(i+1,some id),by simp only;omega,hU,ho2,λ_ h=>by cases h;exact hid0⟩, ?_,by simp only;omega⟩;((dsimp only [stO,lnV,Option.isSome];rw [e1]));(((repeat (first|refine Sub.pv ?_ rfl|refine Sub.var ?_ rfl rfl));(exact Sub.nil _ _ _ (zsr _) rfl))))|intros;(try simp only [zql]);omega)
  |some k=>
   rw [hpt] at hp
   have hh:eE (inR M) l f=inR M (f.table,k):=adW hpt
   cases hG:inR M (f.table,k) with
   |false=>
    rw [hG] at hh
    have hU:=hAU (by rw [hh];rfl)
    have e1:=hsame hh
    (try apply wO pk;rfl);(repeat' first|apply lkS (M:=M) (k:=(f.table,k));(iterate 5 rfl);rotate_left;rfl;rfl;rw [hG]|show All _;constructor|show Imp _ _;constructor|show ImpX _ _ _ _;constructor|apply wC pk;rfl;rfl|apply wE pk;rfl;rfl|refine aA rfl ?_ ?_<;>intro h<;>(try simp at h)<;>try omega|apply aN pk;(iterate 6 rfl);rotate_left;rfl;(intro hw;rfl);(intro hw;apply hgf<;>omega);(intro _;rfl);rfl|(apply cB;rfl;rfl;(apply hp<;>first|exact aB _ _ _|assumption|omega|(fail));rfl;rfl;rfl;intro _ st' hR;obtain ⟨rfl,rfl⟩:=hR)|(refine ⟨⟨(i+1,some id),by simp only;omega,hU,ho2,λ_ h=>by cases h;exact hid0⟩, ?_,by simp only;omega⟩;((dsimp only [stO,lnV,Option.isSome];rw [e1]));(((repeat (first|refine Sub.pv ?_ rfl|refine Sub.var ?_ rfl rfl));(exact Sub.nil _ _ _ (zsr _) rfl))))|intros;(try simp only [zql]);omega)
   |true=>
    rw [hG] at hh
    by_cases ha:f.act=2
    ·have hU:=hAU (by rw [hh,decide_eq_true ha];rfl)
     obtain ⟨j,hj,hjl⟩:=apW hpt
     have e1:=hup j hh hjl hj
     have hjn:j<(eO (eE (inR M) l) (t.foreign.take i) l.cells_).length:=by rw [hlenN];exact hjl
     have hgj:((eO (eE (inR M) l) (t.foreign.take i) l.cells_).map Cl.cells)[j]?=some ((eO (eE (inR M) l) (t.foreign.take i) l.cells_)[j]'hjn).cells:=by rw [List.getElem?_map,List.getElem?_eq_getElem hjn];rfl
     (try apply wO pk;rfl);(repeat' first|apply lkS (M:=M) (k:=(f.table,k));(iterate 5 rfl);rotate_left;rfl;rfl;rw [hG]|show All _;constructor|show Imp _ _;constructor|show ImpX _ _ _ _;constructor|apply wC pk;rfl;rfl|apply wE pk;rfl;rfl|refine aA rfl ?_ ?_<;>intro h<;>(try simp at h)<;>try omega|apply aN pk;(iterate 6 rfl);rotate_left;rfl;(intro hw;rfl);(intro hw;apply hgf<;>omega);(intro _;rfl);rfl|apply ixA pk;(iterate 5 rfl);rotate_left;rfl;(intro hw;(exact (show _=((j:Nat):Int) from by omega)));(intro hw;(omega));rfl;(exact Nat.zero_add _)|(apply cB;rfl;rfl;(apply hp<;>first|exact aB _ _ _|assumption|omega|(fail));rfl;rfl;rfl;intro _ st' hR;obtain ⟨rfl,rfl⟩:=hR)|apply aDY 57;rfl;exact wkz|apply stX pk;rfl;rfl;exact aB _ _ _;rfl;exact hgj;rfl;rfl|(refine ⟨⟨(i+1,some id),by simp only;omega,hU,ho2,λ_ h=>by cases h;exact hid0⟩, ?_,by simp only;omega⟩;((dsimp only [stO,lnV,Option.isSome];rw [e1,List.map_set]));(((repeat (first|refine Sub.pv ?_ rfl|refine Sub.var ?_ rfl rfl));(exact Sub.nil _ _ _ (eY (by first|rfl|exact fT ‹_›|((simp only [St.pv,St.put,St.sst,St.setv,St.nil,St.var,fF]);first|done|rfl))) rfl))))|intros;(try simp only [zql]);omega)
    ·have hb:=hbad (by rw [hh,decide_eq_false ha];rfl)
     (try apply wO pk;rfl);(repeat' first|apply lkS (M:=M) (k:=(f.table,k));(iterate 5 rfl);rotate_left;rfl;rfl;rw [hG]|show All _;constructor|show Imp _ _;constructor|show ImpX _ _ _ _;constructor|apply wC pk;rfl;rfl|apply wE pk;rfl;rfl|refine aA rfl ?_ ?_<;>intro h<;>(try simp at h)<;>try omega|(try refine aC ?_);((refine ⟨_,_,_,rfl,zwr _,zsr _, ?_⟩;(exact .inl ⟨hb,rfl,aL hid0⟩);done))|apply aN pk;(iterate 6 rfl);rotate_left;rfl;(intro hw;rfl);(intro hw;apply hgf<;>omega);(intro _;rfl);rfl|(apply cB;rfl;rfl;(apply hp<;>first|exact aB _ _ _|assumption|omega|(fail));rfl;rfl;rfl;intro _ st' hR;obtain ⟨rfl,rfl⟩:=hR))
def azC (t:Tb) (G:R2->Bool) (who:Dt) (l:Ln):PV:=if tH t G l=true then .tup [.agg (kT t G who l).cells,(PV.val (Value.bool (true)))] else .tup [.agg Ln.zero.cells,(PV.val (Value.bool (false)))]
theorem avA (t:Tb) (l:Ln) (M:List R2) (who:Dt) (hf:t.foreign.length<1000000000000) (hc:l.cells_.length<1000000000000) (hb:l.by_.length<100000000000) (hR:∀f∈t.foreign,xF l f.col) (hD:∀i j (hi:i<t.foreign.length) (hj:j<t.foreign.length),t.foreign[i].col=t.foreign[j].col->i=j):
  PF Tryz.prog 238 [.agg t.cells, .agg l.cells, .fmap (aY mQ bF (mE M)), .agg who.cells] (azC t (inR M) who l):=λst=>
 gL (sz:=5) (aB5 t l M who hf hc hb hR hD st) λp st' h=>by
  unfold azC
  rcases h with ⟨h1,rfl,h2⟩|⟨h1,h2,rfl,rfl⟩|⟨h1,h2,id,rfl,h3,rfl⟩
  ·rw [if_neg (by rw [h1];simp)]
   exact .inr ⟨_,_,Wk.tup (.cons (.agg (.cons (zwr _) (.cons Wk.nil (.cons Wk.nil .nil)))) (.cons (zwr _) .nil)),h2,rfl,rfl⟩
  ·rw [if_pos h1]
   unfold kT
   rw [if_neg (by rw [h2];simp)]
   exact .inr ⟨_,_,zwr _,zsr _,rfl,rfl⟩
  ·rw [if_pos h1]
   unfold kT
   rw [if_pos h2]
   exact .inl ⟨id,80,(eO (eE (inR M) l) t.foreign l.cells_).map Cl.cells,_,st,aB _ _ _,yK, .tup (.cons (.agg (.cons .refl (.cons (gJ (dE ..)) (.cons .refl .nil)))) (.cons .refl .nil)),cX h3,rfl,rfl⟩
end Go.Proofs.YtloecjjehapblaaGreatDoor
