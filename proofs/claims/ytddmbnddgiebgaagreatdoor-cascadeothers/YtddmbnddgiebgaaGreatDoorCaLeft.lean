import Derived.Test.YtddmbnddgiebgaaGreatDoorCaKin
import Derived.Test.YtddmbnddgiebgaaGreatDoorClo
import Derived.Test.YtddmbnddgiebgaaGreatDoorAbsJ
set_option linter.unusedSimpArgs false
set_option linter.unusedVariables false
namespace Go.Proofs.YtddmbnddgiebgaaGreatDoor
open Go Go.Abs
attribute [local irreducible] Ev PWp
set_option maxRecDepth 10000
set_option maxHeartbeats 4000000
section
variable {l:List Oper} {d:Md} {r:List Oper} {s:St} {Kt:St→Prop} {t:Nat} {ty:TypeId} {pos:String} {after:Array Edge} {gd:Option (Nat×Bool)}
theorem lkS {T e:TypeId} {x y:Operand} {w:Bool} {M:List R2} {k:R2} (hw:bO l ⟨some t, .lookup T x y false,ty,pos,after,gd⟩ s=some w) (hx:opd s x=some (.fmap (aV eD bF (mE M)))) (hy:opd s y=some (.agg (r2C k))) (hT:tiK tt T=some (.map 28 e)) (hz:pzv tt e=some (PV.val (Value.bool (false)))) (hf:All (flagsI s w [x,y] [])) (hd:Nat.blt t s.n=true)
    (ht:cP d l r=true) (kk:Ev Tryz.prog l d r (s.put (some t) w (.pv (PV.val (Value.bool (inR M k))))) Kt):Ev Tryz.prog l d (⟨some t, .lookup T x y false,ty,pos,after,gd⟩::r) s Kt:=by
  refine auZ pk afN (f:=bF) hw hx hy hT hz hf hd ht rfl ?_
  have e:hZ (PV.val (Value.bool (false))) bF false (dH k (mE M))=(PV.val (Value.bool (inR M k))):=by
    by_cases h:k∈M
    · rw [xP h];unfold inR;rw [decide_eq_true h];rfl
    · rw [tQ h];unfold inR;rw [decide_eq_false h];rfl
  rw [e];exact kk
end
def lG (t:Tb) (G:R2→Bool) (l:Ln):Bool:=t.foreign.all fun f=> !bI G l f||decide (f.act=2)
def fZ (t:Tb) (G:R2→Bool) (l:Ln):Bool:=t.foreign.any (bI G l)
def cR (p:Fr→Bool) (fs:List Fr) (cs:List Cl):List Cl:=cs.mapIdx fun c x=>if fs.any (fun f=>decide (f.col=(c:Int))&&p f)=true then Cl.zero else x
def bH (t:Tb) (G:R2→Bool) (who:Dt) (l:Ln):Ln:=if fZ t G l=true then ⟨l.key,cR (bI G l) t.foreign l.cells_,(bP l who).by_⟩ else l
theorem bW (p:Fr→Bool) (fs:List Fr) (cs:List Cl):(cR p fs cs).length=cs.length:=by simp [cR]
theorem fE {p:Fr→Bool} {fs:List Fr} {cs:List Cl} {j:Nat} (h:j<cs.length):(cR p fs cs)[j]'(by rw [bW];exact h)=if fs.any (fun f=>decide (f.col=(j:Int))&&p f)=true then Cl.zero else cs[j]:=by simp [cR]
theorem aeP {p:Fr→Bool} {fs:List Fr} {cs:List Cl} (h:fs.any p=false):cR p fs cs=cs:=by
  refine List.ext_getElem (bW ..) fun j h1 h2=> ?_
  rw [fE h2,if_neg]
  intro q
  obtain ⟨f,hf,e⟩:=List.any_eq_true.1 q
  rw [Bool.and_eq_true] at e
  rw [List.any_eq_true.2 ⟨f,hf,e.2⟩] at h;cases h
theorem aqU {p:Fr→Bool} {fs:List Fr} {cs:List Cl} {i j:Nat} (hi:i<fs.length) (hp:p fs[i]=true) (hj:j<cs.length) (hc:fs[i].col=(j:Int)):cR p (fs.take (i+1)) cs=(cR p (fs.take i) cs).set j Cl.zero:=by
  refine List.ext_getElem (by rw [List.length_set,bW,bW]) fun c h1 h2=> ?_
  rw [bW] at h1
  rw [fE h1,List.getElem_set,List.take_succ_eq_append_getElem hi,List.any_append]
  by_cases e:j=c
  · subst e
    rw [if_pos rfl,if_pos]
    simp [hc,hp]
  · rw [if_neg e,fE h1]
    have:([fs[i]].any fun f=>decide (f.col=(c:Int))&&p f)=false:=by
      simp only [List.any_cons,List.any_nil,Bool.or_false,hc]
      rw [decide_eq_false (by omega)];rfl
    rw [this,Bool.or_false]
theorem agU {p:Fr→Bool} {fs:List Fr} {cs:List Cl} {i:Nat} (hi:i<fs.length) (hp:p fs[i]=false):cR p (fs.take (i+1)) cs=cR p (fs.take i) cs:=by
  have e:∀c:Nat,((fs.take (i+1)).any fun f=>decide (f.col=(c:Int))&&p f)=(fs.take i).any fun f=>decide (f.col=(c:Int))&&p f:=fun c=>by
    rw [List.take_succ_eq_append_getElem hi,List.any_append]
    simp only [List.any_cons,List.any_nil,hp,Bool.and_false,Bool.or_false]
  unfold cR
  simp only [e]
theorem amE {p:Fr→Bool} {fs:List Fr} {i:Nat} (hi:i<fs.length):(fs.take (i+1)).any p=((fs.take i).any p||p fs[i]):=by
  rw [List.take_succ_eq_append_getElem hi,List.any_append];simp
def lnV (l:Ln) (who:Dt):Option Nat→List PV
  |none=>l.cells
  |some id=>[(PV.val (Value.int .i64 (l.key))), .vec id 5 0 l.cells_.length, .seq ((bP l who).by_.map Dt.cells)]
def stO (st:aI) (cs:List Cl):Option Nat→aI
  |none=>st
  |some id=>upd st id (some (.arr 75 (cs.map Cl.cells)))
theorem aaE (l:Ln) (d:Dt):(bP l d).cells_=l.cells_∧(bP l d).key=l.key:=by
  unfold bP
  split<;>exact ⟨rfl,rfl⟩
theorem apE (l:Ln) (cs:List Cl) (bys:List Dt) (c:Int) {st:aI} {id n:Nat} (hst:st id=some (.arr 75 (cs.map Cl.cells))) (hn:cs.length=n) (h0:0<n) (h:iJ ⟨l.key,cs,bys⟩ c):PC Tryz.prog 26 [.agg [(PV.val (Value.int .i64 (l.key))), .vec id 5 0 n, .seq (bys.map Dt.cells)],(PV.val (Value.int .i64 (c)))] st fun r S=>r=ptR (ptP ⟨l.key,cs,bys⟩ c)∧S=st:=
  PC.borrow 0 hst afI (by simpa [hn] using h0) (.cons (.agg (.cons .refl (.cons (iI hn) (.cons .refl .nil)))) (.cons .refl .nil)) (WkL.refl _) (fY ⟨l.key,cs,bys⟩ c h) (by cases ptP ⟨l.key,cs,bys⟩ c<;>rfl)
theorem adU {l:Ln} {c k:Int} (h:ptP l c=some k):∃j:Nat,c=j∧j<l.cells_.length:=by
  by_cases hc:0≤c∧c<l.cells_.length
  · exact ⟨c.toNat,by omega,by omega⟩
  · rw [nE hc] at h;cases h
theorem aoO {l:Ln} {p:Fr→Bool} {fs:List Fr} {c:Int} {bys:List Dt} (h:∀f∈fs,f.col≠c):ptP ⟨l.key,cR p fs l.cells_,bys⟩ c=ptP l c:=by
  by_cases hc:0≤c∧c<l.cells_.length
  · obtain ⟨j,rfl⟩:∃j:Nat,c=j:=⟨c.toNat,by omega⟩
    have hj:j<l.cells_.length:=by omega
    have hj2:j<(cR p fs l.cells_).length:=by rw [bW];exact hj
    rw [pJ hj,pJ (l:=⟨l.key,cR p fs l.cells_,bys⟩) hj2]
    have e:(cR p fs l.cells_)[j]=l.cells_[j]:=by
      rw [fE hj,if_neg]
      intro q
      obtain ⟨f,hf,e⟩:=List.any_eq_true.1 q
      rw [Bool.and_eq_true,decide_eq_true_eq] at e
      exact h f hf e.1
    show (if (cR p fs l.cells_)[j].val.kind=1 then some (cR p fs l.cells_)[j].val.n else none)=_
    rw [e]
  · rw [nE hc,nE]
    show ¬(0≤c∧c<(cR p fs l.cells_).length)
    rwa [bW]
theorem aeN {l:Ln} {p:Fr→Bool} {fs:List Fr} {c:Int} {bys:List Dt} (h:iJ l c):iJ ⟨l.key,cR p fs l.cells_,bys⟩ c:=fun j hj e=>by
  have hj2:j<(cR p fs l.cells_).length:=hj
  rw [bW] at hj2
  show (cR p fs l.cells_)[j].kind=0
  rw [fE hj2]
  split
  · rfl
  · exact h j hj2 e
theorem asK {p:Fr→Bool} {fs:List Fr} {i:Nat} {f:Fr} (hI:∀j (h:j<fs.length),j<i→p fs[j]=true) (h:i<fs.length) (e:fs[i]=f) (hf:p f=true):∀j (h:j<fs.length),j<i+1→p fs[j]=true:=fun j hj hji=>by
  rcases Nat.lt_succ_iff_lt_or_eq.1 hji with q|q
  · exact hI j hj q
  · subst q;rw [e];exact hf
theorem wkz :Wk (.agg [(PV.val (Value.int .i64 (0))),(PV.val (Value.int .i64 (0))),(PV.val (Value.int .i64 (0))), .val (.string e0), .val (.slice none 0 0)]) (.agg Cl.zero.cells):= .agg (.cons (Wk.refl _) (.cons (Wk.refl _) (.cons (Wk.refl _) (.cons (Wk.refl _) (.cons Wk.nil .nil)))))
def atH (st:aI) (t:Tb) (l:Ln) (M:List R2) (who:Dt) (r:PV) (S:aI):Prop:=
  (lG t (inR M) l=false∧r= .tup [.agg [(PV.val (Value.int .i64 (0))), .val (.slice none 0 0), .val (.slice none 0 0)],(PV.val (Value.bool (false)))]∧StSub st S)∨(lG t (inR M) l=true∧fZ t (inR M) l=false∧r= .tup [.agg l.cells,(PV.val (Value.bool (true)))]∧S=st)∨
  (lG t (inR M) l=true∧fZ t (inR M) l=true∧∃id,r= .tup [.agg (lnV l who (some id)),(PV.val (Value.bool (true)))]∧st id=none∧S=upd st id (some (.arr 75 ((cR (bI (inR M) l) t.foreign l.cells_).map Cl.cells))))
theorem anY (t:Tb) (l:Ln) (M:List R2) (who:Dt) (hf:t.foreign.length<1000000000000) (hc:l.cells_.length<1000000000000) (hb:l.by_.length<100000000000) (hR:∀f∈t.foreign,iJ l f.col) (hD:∀i j (hi:i<t.foreign.length) (hj:j<t.foreign.length),t.foreign[i].col=t.foreign[j].col→i=j) (st:aI):
    PC Tryz.prog 29 [.agg t.cells, .agg l.cells, .fmap (aV eD bF (mE M)), .agg who.cells] st (atH st t l M who):=by
  have hw:=sO l who hb
  obtain ⟨w1,w2⟩:=aaE l who
  have ew:(bP l who).cells=[(PV.val (Value.int .i64 (l.key))), .seq (l.cells_.map Cl.cells), .seq ((bP l who).by_.map Dt.cells)]:=by show [(PV.val (Value.int .i64 ((bP l who).key))), .seq ((bP l who).cells_.map Cl.cells),_]=_;rw [w1,w2]
  rw [ew] at hw
  have hcl:=afZ l.cells_
  refine dU aH Tryz.func29 (by kernel_rfl) rfl rfl rfl rfl ?_
  focus ((try (apply wO pk;exact rfl));(repeat' (first|(show All _;constructor)|(show Imp _ _;constructor)|(show ImpX _ _ _ _;constructor)|(apply wC pk;(iterate 2 exact rfl))|(apply wE pk;(iterate 2 exact rfl))|(apply wX pk;exact rfl)|(apply wN pk;exact rfl)|(apply wD pk [] [];kernel_rfl;exact rfl;exact rfl)|(apply aC;simp only [zqt,zqf])|(refine aD rfl (fun h=> ?_) (fun h=> ?_)<;>(try simp at h)<;>try (exfalso;omega))|(refine aF ?_;refine ⟨_,_,_,rfl,Wk.refl _,StSub.refl _, ?_,rfl⟩;try rfl)|(intros;(try simp only [zql]);omega))))
  refine aP (X:={x:Nat×Option Nat//x.1≤t.foreign.length∧(∀j (h:j<t.foreign.length),j<x.1→(!bI (inR M) l t.foreign[j]||decide (t.foreign[j].act=2))=true)∧x.2.isSome=(t.foreign.take x.1).any (bI (inR M) l)∧∀id,x.2=some id→st id=none}) (fun i=>(((((((((St.nil 61 (stO st (cR (bI (inR M) l) (t.foreign.take i.1.1) l.cells_) i.1.2)).pv 2 (.fmap (aV eD bF (mE M)))).var 5 43 (lnV l who i.1.2)).var 7 30 (who.cells)).var 8 43 ([(PV.val (Value.int .i64 (0))), .val (.slice none 0 0), .val (.slice none 0 0)])).pv 10 ((PV.val (Value.bool (i.1.2.isSome))))).pv 16 (.seq (t.foreign.map Fr.cells))).pv 17 ((PV.val (Value.int .i64 (((t.foreign.map Fr.cells).length:Nat)))))).pv 18 ((PV.val (Value.int .i64 ((i.1.1:Nat))))))) (fun i=>t.foreign.length-i.1.1) ⟨(0,none),by simp,by simp,by simp,by simp⟩ ?_ (fun i=> ?_)
  · dsimp only [stO,lnV,Option.isSome]
    (first|exact Sub.nil _ _ _ (StSub.refl _) rfl|((repeat (first|refine Sub.pv ?_ rfl|refine Sub.var ?_ rfl rfl));(first|exact Sub.nil _ _ _ (StSub.refl _) rfl|exact Sub.nil _ _ _ (aS (by assumption)) rfl|exact Sub.nil _ _ _ (aM (by first|rfl|exact bM (by assumption)|((simp only [St.pv,St.put,St.sst,St.setv,St.nil,St.var,aO]);first|done|rfl))) rfl|(refine Sub.nil _ _ _ (aM ?_) rfl;(simp only [St.pv,St.put,St.sst,St.setv,St.nil,St.var,aO]);(rw [eJ (by assumption)]);first|done|rfl))))
  obtain ⟨⟨i,o⟩,hi,hI,ho,hid⟩:=i
  simp only at hi hI ho hid
  dsimp only
  by_cases hend:t.foreign.length≤i
  · have e1:lG t (inR M) l=true:=List.all_eq_true.2 fun f hf=>by
      obtain ⟨j,hj,rfl⟩:=List.getElem_of_mem hf
      exact hI j hj (by omega)
    rw [List.take_of_length_le hend] at ho⊢
    cases o with
    |none=>
      dsimp only [stO,lnV,Option.isSome] at ho⊢
      have e2:fZ t (inR M) l=false:=ho.symm
      (try (apply wO pk;exact rfl));(repeat' (first|(show All _;constructor)|(show Imp _ _;constructor)|(show ImpX _ _ _ _;constructor)|(apply wC pk;(iterate 2 exact rfl))|(apply wE pk;(iterate 2 exact rfl))|(apply wX pk;exact rfl)|(apply wN pk;exact rfl)|(apply wDx pk;exact rfl;kernel_rfl;exact rfl;exact rfl)|(apply aC;simp only [zqt,zqf])|(refine aD rfl (fun h=> ?_) (fun h=> ?_)<;>(try simp at h)<;>try (exfalso;omega))|((try refine aF ?_);(first|(refine ⟨_,_,_,rfl,Wk.refl _,StSub.refl _, ?_⟩;(exact .inr (.inl ⟨e1,e2,rfl,rfl⟩));done)|(refine ⟨_,_, ?zs,rfl,Wk.refl _, ?zh, ?zr⟩;(case zh=>(refine aG ?_ (by assumption);(repeat refine aG ?_ (by assumption));exact StSub.refl _));(case zr=>(exact .inr (.inl ⟨e1,e2,rfl,rfl⟩))))|refine ⟨_,_,_,rfl,Wk.refl _,StSub.refl _, ?_⟩))|(apply ncA;(iterate 3 exact rfl);rotate_left;exact rfl;exact rfl)|(apply ldR pk;exact rfl;exact rfl;rotate_left;exact rfl;(focus ((repeat (first|exact aA _ _ _|assumption|refine (aB (by assumption)).trans ?_));done));exact rfl;exact rfl)|(apply stR pk;exact rfl;exact rfl;(focus ((repeat (first|exact aA _ _ _|assumption|refine (aB (by assumption)).trans ?_));done));exact rfl;exact rfl)|(intros;(try simp only [zql]);omega)))
    |some id=>
      dsimp only [stO,lnV,Option.isSome] at ho⊢
      have e2:fZ t (inR M) l=true:=ho.symm
      have hid:=hid id rfl
      (try (apply wO pk;exact rfl));(repeat' (first|(show All _;constructor)|(show Imp _ _;constructor)|(show ImpX _ _ _ _;constructor)|(apply wC pk;(iterate 2 exact rfl))|(apply wE pk;(iterate 2 exact rfl))|(apply wX pk;exact rfl)|(apply wN pk;exact rfl)|(apply wDx pk;exact rfl;kernel_rfl;exact rfl;exact rfl)|(apply aC;simp only [zqt,zqf])|(refine aD rfl (fun h=> ?_) (fun h=> ?_)<;>(try simp at h)<;>try (exfalso;omega))|((try refine aF ?_);(first|(refine ⟨_,_,_,rfl,Wk.refl _,StSub.refl _, ?_⟩;(exact .inr (.inr ⟨e1,e2,id,rfl,hid,rfl⟩));done)|(refine ⟨_,_, ?zs,rfl,Wk.refl _, ?zh, ?zr⟩;(case zh=>(refine aG ?_ (by assumption);(repeat refine aG ?_ (by assumption));exact StSub.refl _));(case zr=>(exact .inr (.inr ⟨e1,e2,id,rfl,hid,rfl⟩))))|refine ⟨_,_,_,rfl,Wk.refl _,StSub.refl _, ?_⟩))|(apply ncA;(iterate 3 exact rfl);rotate_left;exact rfl;exact rfl)|(apply ldR pk;exact rfl;exact rfl;rotate_left;exact rfl;(focus ((repeat (first|exact aA _ _ _|assumption|refine (aB (by assumption)).trans ?_));done));exact rfl;exact rfl)|(apply stR pk;exact rfl;exact rfl;(focus ((repeat (first|exact aA _ _ _|assumption|refine (aB (by assumption)).trans ?_));done));exact rfl;exact rfl)|(intros;(try simp only [zql]);omega)))
  have hil:i<t.foreign.length:=by omega
  have hRf:=hR _ (List.getElem_mem hil)
  have hsn:=amE (p:=bI (inR M) l) hil
  have hsame:=agU (p:=bI (inR M) l) (cs:=l.cells_) hil
  have hup:=fun j=>aqU (p:=bI (inR M) l) (cs:=l.cells_) (j:=j) hil
  have hne:∀f∈t.foreign.take i,f.col≠t.foreign[i].col:=fun f hf e=>by
    obtain ⟨j,hj,rfl⟩:=List.getElem_of_mem hf
    rw [List.length_take] at hj
    rw [List.getElem_take] at e
    have:=hD j i (by omega) hil e
    omega
  have hbad:(!bI (inR M) l t.foreign[i]||decide (t.foreign[i].act=2))=false→lG t (inR M) l=false:=fun h=>by
    unfold lG
    rw [←Bool.not_eq_true,List.all_eq_true]
    intro q
    rw [q _ (List.getElem_mem hil)] at h;cases h
  obtain ⟨f,hfe⟩:∃f,t.foreign[i]=f:=⟨_,rfl⟩
  have hAU:=fun h=>asK (p:=fun f=> !bI (inR M) l f||decide (f.act=2)) hI hil hfe h
  rw [hfe] at hRf hsn hsame hne hbad hup
  have hgf:(t.foreign.map Fr.cells)[i]?=some f.cells:=by rw [List.getElem?_map,List.getElem?_eq_getElem hil,hfe];rfl
  cases o with
  |none=>
    dsimp only [stO,lnV,Option.isSome] at ho⊢
    have hp:=fY l f.col hRf
    cases hpt:ptP l f.col with
    |none=>
      have hh:bI (inR M) l f=false:=pR hpt
      have hU:=hAU (by rw [hh];rfl)
      have ho2:(none:Option Nat).isSome=(t.foreign.take (i+1)).any (bI (inR M) l):=by rw [hsn,hh,Bool.or_false];exact ho
      rw [hpt] at hp
      (try (apply wO pk;exact rfl));(repeat' (first|((apply lkS (M:=M) (k:=(f.table,0));(iterate 5 exact rfl);rotate_left;exact rfl;exact rfl))|(show All _;constructor)|(show Imp _ _;constructor)|(show ImpX _ _ _ _;constructor)|(apply wC pk;(iterate 2 exact rfl))|(apply wE pk;(iterate 2 exact rfl))|(apply wX pk;exact rfl)|(apply wN pk;exact rfl)|(apply wDx pk;exact rfl;kernel_rfl;exact rfl;exact rfl)|(apply aC;simp only [zqt,zqf])|(refine aD rfl (fun h=> ?_) (fun h=> ?_)<;>(try simp at h)<;>try (exfalso;omega))|((try refine aF ?_);refine ⟨_,_,_,rfl,Wk.refl _,StSub.refl _, ?_⟩)|(apply aK;(iterate 3 exact rfl);(intro _;apply hp<;>first|assumption|omega);rotate_left;(iterate 2 exact rfl))|(apply dG;(iterate 3 exact rfl);(intro _;apply hp<;>first|assumption|omega);rotate_left;(iterate 2 exact rfl))|(apply bC pk;(iterate 6 exact rfl);rotate_left;exact rfl;(intro hw;exact rfl);(intro hw;apply hgf<;>omega);(intro _;exact rfl);exact rfl)|(apply ncA;(iterate 3 exact rfl);rotate_left;exact rfl;exact rfl)|(apply ldR pk;exact rfl;exact rfl;rotate_left;exact rfl;(focus ((repeat (first|exact aA _ _ _|assumption|refine (aB (by assumption)).trans ?_));done));exact rfl;exact rfl)|(apply stR pk;exact rfl;exact rfl;(focus ((repeat (first|exact aA _ _ _|assumption|refine (aB (by assumption)).trans ?_));done));exact rfl;exact rfl)|(refine ⟨⟨(i+1,none),by simp only;omega,hU,ho2,by simp⟩, ?_,by simp only;omega⟩;(first|exact Sub.nil _ _ _ (StSub.refl _) rfl|((repeat (first|refine Sub.pv ?_ rfl|refine Sub.var ?_ rfl rfl));(first|exact Sub.nil _ _ _ (StSub.refl _) rfl|exact Sub.nil _ _ _ (aS (by assumption)) rfl|exact Sub.nil _ _ _ (aM (by first|rfl|exact bM (by assumption)|((simp only [St.pv,St.put,St.sst,St.setv,St.nil,St.var,aO]);first|done|rfl))) rfl|(refine Sub.nil _ _ _ (aM ?_) rfl;(simp only [St.pv,St.put,St.sst,St.setv,St.nil,St.var,aO]);(rw [eJ (by assumption)]);first|done|rfl)))))|(intros;(try simp only [zql]);omega)))
    |some k=>
      rw [hpt] at hp
      have hh:bI (inR M) l f=inR M (f.table,k):=jC hpt
      cases hG:inR M (f.table,k) with
      |false=>
        rw [hG] at hh
        have hU:=hAU (by rw [hh];rfl)
        have ho2:(none:Option Nat).isSome=(t.foreign.take (i+1)).any (bI (inR M) l):=by rw [hsn,hh,Bool.or_false];exact ho
        (try (apply wO pk;exact rfl));(repeat' (first|((apply lkS (M:=M) (k:=(f.table,k));(iterate 5 exact rfl);rotate_left;exact rfl;exact rfl;rw [hG]))|(show All _;constructor)|(show Imp _ _;constructor)|(show ImpX _ _ _ _;constructor)|(apply wC pk;(iterate 2 exact rfl))|(apply wE pk;(iterate 2 exact rfl))|(apply wX pk;exact rfl)|(apply wN pk;exact rfl)|(apply wDx pk;exact rfl;kernel_rfl;exact rfl;exact rfl)|(apply aC;simp only [zqt,zqf])|(refine aD rfl (fun h=> ?_) (fun h=> ?_)<;>(try simp at h)<;>try (exfalso;omega))|((try refine aF ?_);refine ⟨_,_,_,rfl,Wk.refl _,StSub.refl _, ?_⟩)|(apply aK;(iterate 3 exact rfl);(intro _;apply hp<;>first|assumption|omega);rotate_left;(iterate 2 exact rfl))|(apply dG;(iterate 3 exact rfl);(intro _;apply hp<;>first|assumption|omega);rotate_left;(iterate 2 exact rfl))|(apply bC pk;(iterate 6 exact rfl);rotate_left;exact rfl;(intro hw;exact rfl);(intro hw;apply hgf<;>omega);(intro _;exact rfl);exact rfl)|(apply ncA;(iterate 3 exact rfl);rotate_left;exact rfl;exact rfl)|(apply ldR pk;exact rfl;exact rfl;rotate_left;exact rfl;(focus ((repeat (first|exact aA _ _ _|assumption|refine (aB (by assumption)).trans ?_));done));exact rfl;exact rfl)|(apply stR pk;exact rfl;exact rfl;(focus ((repeat (first|exact aA _ _ _|assumption|refine (aB (by assumption)).trans ?_));done));exact rfl;exact rfl)|(refine ⟨⟨(i+1,none),by simp only;omega,hU,ho2,by simp⟩, ?_,by simp only;omega⟩;(first|exact Sub.nil _ _ _ (StSub.refl _) rfl|((repeat (first|refine Sub.pv ?_ rfl|refine Sub.var ?_ rfl rfl));(first|exact Sub.nil _ _ _ (StSub.refl _) rfl|exact Sub.nil _ _ _ (aS (by assumption)) rfl|exact Sub.nil _ _ _ (aM (by first|rfl|exact bM (by assumption)|((simp only [St.pv,St.put,St.sst,St.setv,St.nil,St.var,aO]);first|done|rfl))) rfl|(refine Sub.nil _ _ _ (aM ?_) rfl;(simp only [St.pv,St.put,St.sst,St.setv,St.nil,St.var,aO]);(rw [eJ (by assumption)]);first|done|rfl)))))|(intros;(try simp only [zql]);omega)))
      |true=>
        rw [hG] at hh
        by_cases ha:f.act=2
        · have hU:=hAU (by rw [hh,decide_eq_true ha];rfl)
          obtain ⟨j,hj,hjl⟩:=adU hpt
          have hn0:cR (bI (inR M) l) (t.foreign.take i) l.cells_=l.cells_:=aeP ho.symm
          have e1:cR (bI (inR M) l) (t.foreign.take (i+1)) l.cells_=l.cells_.set j Cl.zero:=by rw [hup j hh hjl hj,hn0]
          have ho2:∀id:Nat,(some id).isSome=(t.foreign.take (i+1)).any (bI (inR M) l):=fun id=>by rw [hsn,hh,Bool.or_true];rfl
          have hgj:(l.cells_.map Cl.cells)[j]?=some (l.cells_[j]'hjl).cells:=by rw [List.getElem?_map,List.getElem?_eq_getElem hjl];rfl
          (try (apply wO pk;exact rfl));(repeat' (first|((apply lkS (M:=M) (k:=(f.table,k));(iterate 5 exact rfl);rotate_left;exact rfl;exact rfl;rw [hG]))|(show All _;constructor)|(show Imp _ _;constructor)|(show ImpX _ _ _ _;constructor)|(apply wC pk;(iterate 2 exact rfl))|(apply wE pk;(iterate 2 exact rfl))|(apply wX pk;exact rfl)|(apply wN pk;exact rfl)|(apply wDx pk;exact rfl;kernel_rfl;exact rfl;exact rfl)|(apply aC;simp only [zqt,zqf])|(refine aD rfl (fun h=> ?_) (fun h=> ?_)<;>(try simp at h)<;>try (exfalso;omega))|(refine aF ?_;first|(refine ⟨_,_,_,rfl,Wk.refl _,StSub.refl _, ?_,rfl⟩;(first|rfl))|(refine ⟨_,_,_,rfl,Wk.refl _,aN (by assumption), ?_,rfl⟩;(first|rfl))|(refine ⟨_,_,_,rfl,Wk.soft _,StSub.refl _, ?_,rfl⟩;(first|rfl))|(refine ⟨_,_,_,rfl,Wk.soft _,aN (by assumption), ?_,rfl⟩;(first|rfl))|(refine ⟨_,_,_,rfl,Wk.refl _,StSub.refl _, ?_,rfl⟩)|(refine ⟨_,_,_,rfl,Wk.soft _,aN (by assumption), ?_,rfl⟩))|(apply aK;(iterate 3 exact rfl);(intro _;(first|apply hp|apply hw)<;>first|assumption|omega);rotate_left;(iterate 2 exact rfl))|(apply dG;(iterate 3 exact rfl);(intro _;(first|apply hp|apply hw)<;>first|assumption|omega);rotate_left;(iterate 2 exact rfl))|(apply bC pk;(iterate 6 exact rfl);rotate_left;exact rfl;(intro hw;exact rfl);(intro hw;apply hgf<;>omega);(intro _;exact rfl);exact rfl)|(apply ncA;(iterate 3 exact rfl);rotate_left;exact rfl;exact rfl)|(apply ldR pk;exact rfl;exact rfl;rotate_left;exact rfl;(focus ((repeat (first|exact aA _ _ _|assumption|refine (aB (by assumption)).trans ?_));done));exact rfl;exact rfl)|(apply stR pk;exact rfl;exact rfl;(focus ((repeat (first|exact aA _ _ _|assumption|refine (aB (by assumption)).trans ?_));done));exact rfl;exact rfl)|(apply ixA pk;(iterate 5 exact rfl);rotate_left;exact rfl;(intro hw;(first|exact (show _=((j:Nat):Int) from by omega)|(simp [gw] at hw;first|exact (show _=((j:Nat):Int) from by omega)|(refine (show _=((0:Nat):Int) from ?_);omega))|exact rfl));(intro hw;(first|omega|(focus (simp [gw] at hw;done))|(simp [gw] at hw;omega)|(simp only [zqs];omega)));exact rfl;(first|exact Nat.zero_add _|exact rfl))|(apply ldA pk Cl.elem;exact rfl;exact rfl;rotate_left;exact rfl;(focus ((repeat (first|exact aA _ _ _|assumption|refine (aB (by assumption)).trans ?_));done));(intro hw;(first|omega|(focus (simp [gw] at hw;done))|(simp [gw] at hw;omega)|(simp only [zqs];omega)));exact rfl)|(apply stA pk Cl.elem;(iterate 3 exact rfl);(focus ((repeat (first|exact aA _ _ _|assumption|refine (aB (by assumption)).trans ?_));done));(first|omega|(simp only [zqs];omega));exact rfl)|(apply bZ;exact rfl;exact rfl;(apply (hcl st hc)<;>first|exact aA _ _ _|assumption|omega|(focus ((repeat (first|exact aA _ _ _|assumption|refine (aB (by assumption)).trans ?_));done)));(iterate 3 exact rfl);intro _ st' hR;obtain ⟨id,rfl,hid0,rfl⟩:=hR)|(apply bZ;exact rfl;exact rfl;(first|(apply fail_no_spec<;>first|exact aA _ _ _|assumption|omega|(simp only [zqs];omega)|(focus ((repeat (first|exact aA _ _ _|assumption|refine (aB (by assumption)).trans ?_));done))));(iterate 3 exact rfl);intro _ st' hR;(first|subst hR|obtain ⟨rfl,rfl⟩:=hR))|((apply arD 57;exact rfl;exact wkz))|((apply stX pk;exact rfl;exact rfl;exact aA _ _ _;exact rfl;exact hgj;exact rfl;exact rfl))|(refine ⟨⟨(i+1,some id),by simp only;omega,hU,ho2 id,fun _ h=>by cases h;exact hid0⟩, ?_,by simp only;omega⟩;((dsimp only [stO,lnV,Option.isSome];rw [e1,List.map_set]));(first|exact Sub.nil _ _ _ (StSub.refl _) rfl|((repeat (first|refine Sub.pv ?_ rfl|refine Sub.var ?_ rfl rfl));(first|exact Sub.nil _ _ _ (StSub.refl _) rfl|exact Sub.nil _ _ _ (aS (by assumption)) rfl|exact Sub.nil _ _ _ (aM (by first|rfl|exact bM (by assumption)|((simp only [St.pv,St.put,St.sst,St.setv,St.nil,St.var,aO]);first|done|rfl))) rfl|(refine Sub.nil _ _ _ (aM ?_) rfl;(simp only [St.pv,St.put,St.sst,St.setv,St.nil,St.var,aO]);(rw [eJ (by assumption)]);first|done|rfl)))))|(intros;(try simp only [zql]);omega)|((exfalso;simp_all;done))))
        · have hb:=hbad (by rw [hh,decide_eq_false ha];rfl)
          (try (apply wO pk;exact rfl));(repeat' (first|((apply lkS (M:=M) (k:=(f.table,k));(iterate 5 exact rfl);rotate_left;exact rfl;exact rfl;rw [hG]))|(show All _;constructor)|(show Imp _ _;constructor)|(show ImpX _ _ _ _;constructor)|(apply wC pk;(iterate 2 exact rfl))|(apply wE pk;(iterate 2 exact rfl))|(apply wX pk;exact rfl)|(apply wN pk;exact rfl)|(apply wDx pk;exact rfl;kernel_rfl;exact rfl;exact rfl)|(apply aC;simp only [zqt,zqf])|(refine aD rfl (fun h=> ?_) (fun h=> ?_)<;>(try simp at h)<;>try (exfalso;omega))|((try refine aF ?_);(first|(refine ⟨_,_,_,rfl,Wk.refl _,StSub.refl _, ?_⟩;(exact .inl ⟨hb,rfl,StSub.refl _⟩);done)|(refine ⟨_,_, ?zs,rfl,Wk.refl _, ?zh, ?zr⟩;(case zh=>(refine aG ?_ (by assumption);(repeat refine aG ?_ (by assumption));exact StSub.refl _));(case zr=>(exact .inl ⟨hb,rfl,StSub.refl _⟩)))|refine ⟨_,_,_,rfl,Wk.refl _,StSub.refl _, ?_⟩))|(apply aK;(iterate 3 exact rfl);(intro _;apply hp<;>first|assumption|omega);rotate_left;(iterate 2 exact rfl))|(apply dG;(iterate 3 exact rfl);(intro _;apply hp<;>first|assumption|omega);rotate_left;(iterate 2 exact rfl))|(apply bC pk;(iterate 6 exact rfl);rotate_left;exact rfl;(intro hw;exact rfl);(intro hw;apply hgf<;>omega);(intro _;exact rfl);exact rfl)|(apply ncA;(iterate 3 exact rfl);rotate_left;exact rfl;exact rfl)|(apply ldR pk;exact rfl;exact rfl;rotate_left;exact rfl;(focus ((repeat (first|exact aA _ _ _|assumption|refine (aB (by assumption)).trans ?_));done));exact rfl;exact rfl)|(apply stR pk;exact rfl;exact rfl;(focus ((repeat (first|exact aA _ _ _|assumption|refine (aB (by assumption)).trans ?_));done));exact rfl;exact rfl)|(intros;(try simp only [zql]);omega)|((exfalso;simp_all;done))))
  |some id=>
    dsimp only [stO,lnV,Option.isSome] at ho⊢
    have hid0:=hid id rfl
    have h0:0<l.cells_.length:=by
      obtain ⟨f',_,hf'⟩:=List.any_eq_true.1 ho.symm
      obtain ⟨k,hk,_⟩:=gT.1 hf'
      obtain ⟨j,_,hj⟩:=adU hk
      omega
    have hlenN:(cR (bI (inR M) l) (t.foreign.take i) l.cells_).length=l.cells_.length:=bW ..
    have hp:=apE l (cR (bI (inR M) l) (t.foreign.take i) l.cells_) (bP l who).by_ f.col (st:=upd st id (some (.arr 75 ((cR (bI (inR M) l) (t.foreign.take i) l.cells_).map Cl.cells)))) (id:=id) (aA _ _ _) hlenN h0 (aeN hRf)
    rw [aoO hne] at hp
    have ho2:(some id).isSome=(t.foreign.take (i+1)).any (bI (inR M) l):=by rw [hsn,←ho];rfl
    cases hpt:ptP l f.col with
    |none=>
      have hh:bI (inR M) l f=false:=pR hpt
      have hU:=hAU (by rw [hh];rfl)
      have e1:=hsame hh
      rw [hpt] at hp
      (try (apply wO pk;exact rfl));(repeat' (first|((apply lkS (M:=M) (k:=(f.table,0));(iterate 5 exact rfl);rotate_left;exact rfl;exact rfl))|(show All _;constructor)|(show Imp _ _;constructor)|(show ImpX _ _ _ _;constructor)|(apply wC pk;(iterate 2 exact rfl))|(apply wE pk;(iterate 2 exact rfl))|(apply wX pk;exact rfl)|(apply wN pk;exact rfl)|(apply wDx pk;exact rfl;kernel_rfl;exact rfl;exact rfl)|(apply aC;simp only [zqt,zqf])|(refine aD rfl (fun h=> ?_) (fun h=> ?_)<;>(try simp at h)<;>try (exfalso;omega))|(refine aF ?_;first|(refine ⟨_,_,_,rfl,Wk.refl _,StSub.refl _, ?_,rfl⟩;(first|rfl))|(refine ⟨_,_,_,rfl,Wk.refl _,aN (by assumption), ?_,rfl⟩;(first|rfl))|(refine ⟨_,_,_,rfl,Wk.soft _,StSub.refl _, ?_,rfl⟩;(first|rfl))|(refine ⟨_,_,_,rfl,Wk.soft _,aN (by assumption), ?_,rfl⟩;(first|rfl))|(refine ⟨_,_,_,rfl,Wk.refl _,StSub.refl _, ?_,rfl⟩)|(refine ⟨_,_,_,rfl,Wk.soft _,aN (by assumption), ?_,rfl⟩))|(apply bC pk;(iterate 6 exact rfl);rotate_left;exact rfl;(intro hw;exact rfl);(intro hw;apply hgf<;>omega);(intro _;exact rfl);exact rfl)|(apply ncA;(iterate 3 exact rfl);rotate_left;exact rfl;exact rfl)|(apply ldR pk;exact rfl;exact rfl;rotate_left;exact rfl;(focus ((repeat (first|exact aA _ _ _|assumption|refine (aB (by assumption)).trans ?_));done));exact rfl;exact rfl)|(apply stR pk;exact rfl;exact rfl;(focus ((repeat (first|exact aA _ _ _|assumption|refine (aB (by assumption)).trans ?_));done));exact rfl;exact rfl)|(apply bZ;exact rfl;exact rfl;(apply hp<;>first|exact aA _ _ _|assumption|omega|(focus ((repeat (first|exact aA _ _ _|assumption|refine (aB (by assumption)).trans ?_));done)));(iterate 3 exact rfl);intro _ st' hR;obtain ⟨rfl,rfl⟩:=hR)|(apply bZ;exact rfl;exact rfl;(first|(apply fail_no_spec<;>first|exact aA _ _ _|assumption|omega|(simp only [zqs];omega)|(focus ((repeat (first|exact aA _ _ _|assumption|refine (aB (by assumption)).trans ?_));done))));(iterate 3 exact rfl);intro _ st' hR;(first|subst hR|obtain ⟨rfl,rfl⟩:=hR))|(refine ⟨⟨(i+1,some id),by simp only;omega,hU,ho2,fun _ h=>by cases h;exact hid0⟩, ?_,by simp only;omega⟩;((dsimp only [stO,lnV,Option.isSome];rw [e1]));(first|exact Sub.nil _ _ _ (StSub.refl _) rfl|((repeat (first|refine Sub.pv ?_ rfl|refine Sub.var ?_ rfl rfl));(first|exact Sub.nil _ _ _ (StSub.refl _) rfl|exact Sub.nil _ _ _ (aS (by assumption)) rfl|exact Sub.nil _ _ _ (aM (by first|rfl|exact bM (by assumption)|((simp only [St.pv,St.put,St.sst,St.setv,St.nil,St.var,aO]);first|done|rfl))) rfl|(refine Sub.nil _ _ _ (aM ?_) rfl;(simp only [St.pv,St.put,St.sst,St.setv,St.nil,St.var,aO]);(rw [eJ (by assumption)]);first|done|rfl)))))|(intros;(try simp only [zql]);omega)))
    |some k=>
      rw [hpt] at hp
      have hh:bI (inR M) l f=inR M (f.table,k):=jC hpt
      cases hG:inR M (f.table,k) with
      |false=>
        rw [hG] at hh
        have hU:=hAU (by rw [hh];rfl)
        have e1:=hsame hh
        (try (apply wO pk;exact rfl));(repeat' (first|((apply lkS (M:=M) (k:=(f.table,k));(iterate 5 exact rfl);rotate_left;exact rfl;exact rfl;rw [hG]))|(show All _;constructor)|(show Imp _ _;constructor)|(show ImpX _ _ _ _;constructor)|(apply wC pk;(iterate 2 exact rfl))|(apply wE pk;(iterate 2 exact rfl))|(apply wX pk;exact rfl)|(apply wN pk;exact rfl)|(apply wDx pk;exact rfl;kernel_rfl;exact rfl;exact rfl)|(apply aC;simp only [zqt,zqf])|(refine aD rfl (fun h=> ?_) (fun h=> ?_)<;>(try simp at h)<;>try (exfalso;omega))|(refine aF ?_;first|(refine ⟨_,_,_,rfl,Wk.refl _,StSub.refl _, ?_,rfl⟩;(first|rfl))|(refine ⟨_,_,_,rfl,Wk.refl _,aN (by assumption), ?_,rfl⟩;(first|rfl))|(refine ⟨_,_,_,rfl,Wk.soft _,StSub.refl _, ?_,rfl⟩;(first|rfl))|(refine ⟨_,_,_,rfl,Wk.soft _,aN (by assumption), ?_,rfl⟩;(first|rfl))|(refine ⟨_,_,_,rfl,Wk.refl _,StSub.refl _, ?_,rfl⟩)|(refine ⟨_,_,_,rfl,Wk.soft _,aN (by assumption), ?_,rfl⟩))|(apply bC pk;(iterate 6 exact rfl);rotate_left;exact rfl;(intro hw;exact rfl);(intro hw;apply hgf<;>omega);(intro _;exact rfl);exact rfl)|(apply ncA;(iterate 3 exact rfl);rotate_left;exact rfl;exact rfl)|(apply ldR pk;exact rfl;exact rfl;rotate_left;exact rfl;(focus ((repeat (first|exact aA _ _ _|assumption|refine (aB (by assumption)).trans ?_));done));exact rfl;exact rfl)|(apply stR pk;exact rfl;exact rfl;(focus ((repeat (first|exact aA _ _ _|assumption|refine (aB (by assumption)).trans ?_));done));exact rfl;exact rfl)|(apply bZ;exact rfl;exact rfl;(apply hp<;>first|exact aA _ _ _|assumption|omega|(focus ((repeat (first|exact aA _ _ _|assumption|refine (aB (by assumption)).trans ?_));done)));(iterate 3 exact rfl);intro _ st' hR;obtain ⟨rfl,rfl⟩:=hR)|(apply bZ;exact rfl;exact rfl;(first|(apply fail_no_spec<;>first|exact aA _ _ _|assumption|omega|(simp only [zqs];omega)|(focus ((repeat (first|exact aA _ _ _|assumption|refine (aB (by assumption)).trans ?_));done))));(iterate 3 exact rfl);intro _ st' hR;(first|subst hR|obtain ⟨rfl,rfl⟩:=hR))|(refine ⟨⟨(i+1,some id),by simp only;omega,hU,ho2,fun _ h=>by cases h;exact hid0⟩, ?_,by simp only;omega⟩;((dsimp only [stO,lnV,Option.isSome];rw [e1]));(first|exact Sub.nil _ _ _ (StSub.refl _) rfl|((repeat (first|refine Sub.pv ?_ rfl|refine Sub.var ?_ rfl rfl));(first|exact Sub.nil _ _ _ (StSub.refl _) rfl|exact Sub.nil _ _ _ (aS (by assumption)) rfl|exact Sub.nil _ _ _ (aM (by first|rfl|exact bM (by assumption)|((simp only [St.pv,St.put,St.sst,St.setv,St.nil,St.var,aO]);first|done|rfl))) rfl|(refine Sub.nil _ _ _ (aM ?_) rfl;(simp only [St.pv,St.put,St.sst,St.setv,St.nil,St.var,aO]);(rw [eJ (by assumption)]);first|done|rfl)))))|(intros;(try simp only [zql]);omega)))
      |true=>
        rw [hG] at hh
        by_cases ha:f.act=2
        · have hU:=hAU (by rw [hh,decide_eq_true ha];rfl)
          obtain ⟨j,hj,hjl⟩:=adU hpt
          have e1:=hup j hh hjl hj
          have hjn:j<(cR (bI (inR M) l) (t.foreign.take i) l.cells_).length:=by rw [hlenN];exact hjl
          have hgj:((cR (bI (inR M) l) (t.foreign.take i) l.cells_).map Cl.cells)[j]?=some ((cR (bI (inR M) l) (t.foreign.take i) l.cells_)[j]'hjn).cells:=by rw [List.getElem?_map,List.getElem?_eq_getElem hjn];rfl
          (try (apply wO pk;exact rfl));(repeat' (first|((apply lkS (M:=M) (k:=(f.table,k));(iterate 5 exact rfl);rotate_left;exact rfl;exact rfl;rw [hG]))|(show All _;constructor)|(show Imp _ _;constructor)|(show ImpX _ _ _ _;constructor)|(apply wC pk;(iterate 2 exact rfl))|(apply wE pk;(iterate 2 exact rfl))|(apply wX pk;exact rfl)|(apply wN pk;exact rfl)|(apply wDx pk;exact rfl;kernel_rfl;exact rfl;exact rfl)|(apply aC;simp only [zqt,zqf])|(refine aD rfl (fun h=> ?_) (fun h=> ?_)<;>(try simp at h)<;>try (exfalso;omega))|(refine aF ?_;first|(refine ⟨_,_,_,rfl,Wk.refl _,StSub.refl _, ?_,rfl⟩;(first|rfl))|(refine ⟨_,_,_,rfl,Wk.refl _,aN (by assumption), ?_,rfl⟩;(first|rfl))|(refine ⟨_,_,_,rfl,Wk.soft _,StSub.refl _, ?_,rfl⟩;(first|rfl))|(refine ⟨_,_,_,rfl,Wk.soft _,aN (by assumption), ?_,rfl⟩;(first|rfl))|(refine ⟨_,_,_,rfl,Wk.refl _,StSub.refl _, ?_,rfl⟩)|(refine ⟨_,_,_,rfl,Wk.soft _,aN (by assumption), ?_,rfl⟩))|(apply bC pk;(iterate 6 exact rfl);rotate_left;exact rfl;(intro hw;exact rfl);(intro hw;apply hgf<;>omega);(intro _;exact rfl);exact rfl)|(apply ncA;(iterate 3 exact rfl);rotate_left;exact rfl;exact rfl)|(apply ldR pk;exact rfl;exact rfl;rotate_left;exact rfl;(focus ((repeat (first|exact aA _ _ _|assumption|refine (aB (by assumption)).trans ?_));done));exact rfl;exact rfl)|(apply stR pk;exact rfl;exact rfl;(focus ((repeat (first|exact aA _ _ _|assumption|refine (aB (by assumption)).trans ?_));done));exact rfl;exact rfl)|(apply ixA pk;(iterate 5 exact rfl);rotate_left;exact rfl;(intro hw;(first|exact (show _=((j:Nat):Int) from by omega)|(simp [gw] at hw;first|exact (show _=((j:Nat):Int) from by omega)|(refine (show _=((0:Nat):Int) from ?_);omega))|exact rfl));(intro hw;(first|omega|(focus (simp [gw] at hw;done))|(simp [gw] at hw;omega)|(simp only [zqs];omega)));exact rfl;(first|exact Nat.zero_add _|exact rfl))|(apply ldA pk Cl.elem;exact rfl;exact rfl;rotate_left;exact rfl;(focus ((repeat (first|exact aA _ _ _|assumption|refine (aB (by assumption)).trans ?_));done));(intro hw;(first|omega|(focus (simp [gw] at hw;done))|(simp [gw] at hw;omega)|(simp only [zqs];omega)));exact rfl)|(apply stA pk Cl.elem;(iterate 3 exact rfl);(focus ((repeat (first|exact aA _ _ _|assumption|refine (aB (by assumption)).trans ?_));done));(first|omega|(simp only [zqs];omega));exact rfl)|(apply bZ;exact rfl;exact rfl;(apply hp<;>first|exact aA _ _ _|assumption|omega|(focus ((repeat (first|exact aA _ _ _|assumption|refine (aB (by assumption)).trans ?_));done)));(iterate 3 exact rfl);intro _ st' hR;obtain ⟨rfl,rfl⟩:=hR)|(apply bZ;exact rfl;exact rfl;(first|(apply fail_no_spec<;>first|exact aA _ _ _|assumption|omega|(simp only [zqs];omega)|(focus ((repeat (first|exact aA _ _ _|assumption|refine (aB (by assumption)).trans ?_));done))));(iterate 3 exact rfl);intro _ st' hR;(first|subst hR|obtain ⟨rfl,rfl⟩:=hR))|((apply arD 57;exact rfl;exact wkz))|((apply stX pk;exact rfl;exact rfl;exact aA _ _ _;exact rfl;exact hgj;exact rfl;exact rfl))|(refine ⟨⟨(i+1,some id),by simp only;omega,hU,ho2,fun _ h=>by cases h;exact hid0⟩, ?_,by simp only;omega⟩;((dsimp only [stO,lnV,Option.isSome];rw [e1,List.map_set]));(first|exact Sub.nil _ _ _ (StSub.refl _) rfl|((repeat (first|refine Sub.pv ?_ rfl|refine Sub.var ?_ rfl rfl));(first|exact Sub.nil _ _ _ (StSub.refl _) rfl|exact Sub.nil _ _ _ (aS (by assumption)) rfl|exact Sub.nil _ _ _ (aM (by first|rfl|exact bM (by assumption)|((simp only [St.pv,St.put,St.sst,St.setv,St.nil,St.var,aO]);first|done|rfl))) rfl|(refine Sub.nil _ _ _ (aM ?_) rfl;(simp only [St.pv,St.put,St.sst,St.setv,St.nil,St.var,aO]);(rw [eJ (by assumption)]);first|done|rfl)))))|(intros;(try simp only [zql]);omega)|((exfalso;simp_all;done))))
        · have hb:=hbad (by rw [hh,decide_eq_false ha];rfl)
          (try (apply wO pk;exact rfl));(repeat' (first|((apply lkS (M:=M) (k:=(f.table,k));(iterate 5 exact rfl);rotate_left;exact rfl;exact rfl;rw [hG]))|(show All _;constructor)|(show Imp _ _;constructor)|(show ImpX _ _ _ _;constructor)|(apply wC pk;(iterate 2 exact rfl))|(apply wE pk;(iterate 2 exact rfl))|(apply wX pk;exact rfl)|(apply wN pk;exact rfl)|(apply wDx pk;exact rfl;kernel_rfl;exact rfl;exact rfl)|(apply aC;simp only [zqt,zqf])|(refine aD rfl (fun h=> ?_) (fun h=> ?_)<;>(try simp at h)<;>try (exfalso;omega))|((try refine aF ?_);(first|(refine ⟨_,_,_,rfl,Wk.refl _,StSub.refl _, ?_⟩;(exact .inl ⟨hb,rfl,aN hid0⟩);done)|(refine ⟨_,_, ?zs,rfl,Wk.refl _, ?zh, ?zr⟩;(case zh=>(refine aG ?_ (by assumption);(repeat refine aG ?_ (by assumption));exact StSub.refl _));(case zr=>(exact .inl ⟨hb,rfl,aN hid0⟩)))|refine ⟨_,_,_,rfl,Wk.refl _,StSub.refl _, ?_⟩))|(apply bC pk;(iterate 6 exact rfl);rotate_left;exact rfl;(intro hw;exact rfl);(intro hw;apply hgf<;>omega);(intro _;exact rfl);exact rfl)|(apply ncA;(iterate 3 exact rfl);rotate_left;exact rfl;exact rfl)|(apply ldR pk;exact rfl;exact rfl;rotate_left;exact rfl;(focus ((repeat (first|exact aA _ _ _|assumption|refine (aB (by assumption)).trans ?_));done));exact rfl;exact rfl)|(apply stR pk;exact rfl;exact rfl;(focus ((repeat (first|exact aA _ _ _|assumption|refine (aB (by assumption)).trans ?_));done));exact rfl;exact rfl)|(apply bZ;exact rfl;exact rfl;(apply hp<;>first|exact aA _ _ _|assumption|omega|(focus ((repeat (first|exact aA _ _ _|assumption|refine (aB (by assumption)).trans ?_));done)));(iterate 3 exact rfl);intro _ st' hR;obtain ⟨rfl,rfl⟩:=hR)|(apply bZ;exact rfl;exact rfl;(first|(apply fail_no_spec<;>first|exact aA _ _ _|assumption|omega|(simp only [zqs];omega)|(focus ((repeat (first|exact aA _ _ _|assumption|refine (aB (by assumption)).trans ?_));done))));(iterate 3 exact rfl);intro _ st' hR;(first|subst hR|obtain ⟨rfl,rfl⟩:=hR))|(intros;(try simp only [zql]);omega)|((exfalso;simp_all;done))))
def akC (t:Tb) (G:R2→Bool) (who:Dt) (l:Ln):PV:=if lG t G l=true then .tup [.agg (bH t G who l).cells,(PV.val (Value.bool (true)))] else .tup [.agg Ln.zero.cells,(PV.val (Value.bool (false)))]
theorem ahF (t:Tb) (l:Ln) (M:List R2) (who:Dt) (hf:t.foreign.length<1000000000000) (hc:l.cells_.length<1000000000000) (hb:l.by_.length<100000000000) (hR:∀f∈t.foreign,iJ l f.col) (hD:∀i j (hi:i<t.foreign.length) (hj:j<t.foreign.length),t.foreign[i].col=t.foreign[j].col→i=j):
    PF Tryz.prog 29 [.agg t.cells, .agg l.cells, .fmap (aV eD bF (mE M)), .agg who.cells] (akC t (inR M) who l):=fun st=>
  iP (sz:=5) (anY t l M who hf hc hb hR hD st) fun p st' h=>by
    unfold akC
    rcases h with ⟨h1,rfl,h2⟩|⟨h1,h2,rfl,rfl⟩|⟨h1,h2,id,rfl,h3,rfl⟩
    · rw [if_neg (by rw [h1];simp)]
      exact .inr ⟨_,_,Wk.tup (.cons (.agg (.cons (Wk.refl _) (.cons Wk.nil (.cons Wk.nil .nil)))) (.cons (Wk.refl _) .nil)),h2,rfl,rfl⟩
    · rw [if_pos h1]
      unfold bH
      rw [if_neg (by rw [h2];simp)]
      exact .inr ⟨_,_,Wk.refl _,StSub.refl _,rfl,rfl⟩
    · rw [if_pos h1]
      unfold bH
      rw [if_pos h2]
      exact .inl ⟨id,75,(cR (bI (inR M) l) t.foreign l.cells_).map Cl.cells,_,st,aA _ _ _,afI, .tup (.cons (.agg (.cons .refl (.cons (iI (bW ..)) (.cons .refl .nil)))) (.cons .refl .nil)),cJ h3,rfl,rfl⟩
end Go.Proofs.YtddmbnddgiebgaaGreatDoor
