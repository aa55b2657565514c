import Derived.Test.YtddmbnddgiebgaaGreatDoorCaDel
import Derived.Test.YtddmbnddgiebgaaGreatDoorCaRef
set_option linter.unusedSimpArgs false
set_option linter.unusedVariables false
namespace Go.Proofs.YtddmbnddgiebgaaGreatDoor
open Go Go.Abs
attribute [local irreducible] Ev PWp
set_option maxRecDepth 10000
set_option maxHeartbeats 4000000
def jN (rows:List R2) (l:Ln) (f:Fr):Bool:=cL (inR rows) l f&&decide (f.act=2)
def vD (z:Bool) (c:Cl):List PV:=match z with
  |true=>[(PV.val (Value.int .i64 (0))),(PV.val (Value.int .i64 (0))),(PV.val (Value.int .i64 (0))), .val (.string e0), .val (.slice none 0 0)]
  |false=>c.cells
def vR (t:Tb) (rows:List R2) (who:Dt) (l:Ln):Ln:=⟨l.key,dO (jN rows l) t.foreign l.cells_,(cT l who).by_⟩
theorem acY (l:Ln) (cs:List Cl) (who:Dt):cT ⟨l.key,cs,l.by_⟩ who=⟨l.key,cs,(cT l who).by_⟩:=by
  unfold cT
  split<;>rfl
theorem ahO (t:Tb) (l:Ln) (rows:List R2) (who:Dt) (hr:rows.length<1000000000000) (hf:t.foreign.length<1000000000000) (hc:l.cells_.length<100000000000) (hb:l.by_.length<100000000000) (hR:∀f∈t.foreign,kS l f.col):PF Tryz.prog 34 [.agg t.cells, .agg l.cells, .seq (rows.map r2C), .agg who.cells] (.agg (vR t rows who l).cells):=by
  have hlN:(dO (jN rows l) t.foreign l.cells_).length=l.cells_.length:=dI ..
  have hAt:∀i (h:i<l.cells_.length),(dO (jN rows l) t.foreign l.cells_)[i]'(by rw [hlN];exact h)=if t.foreign.any (fun f=>decide (f.col=(i:Int))&&jN rows l f)=true then Cl.zero else l.cells_[i]:=fun i h=>jZ h
  have hwr:=fun (cs:List Cl)=>abE ⟨l.key,cs,l.by_⟩ who (by show l.by_.length<_;omega)
  simp only [acY] at hwr
  unfold vR
  generalize dO (jN rows l) t.foreign l.cells_=N at*
  refine aL aH Tryz.func34 (by kernel_rfl) rfl rfl rfl rfl (fun st=> ?_)
  focus ((try (apply wO pk;exact rfl));(repeat' (first|(show All _;constructor)|(show Imp _ _;constructor)|(show ImpX _ _ _ _;constructor)|(apply wC pk;(iterate 2 exact rfl))|(apply wE pk;(iterate 2 exact rfl))|(apply wX pk;exact rfl)|(apply wN pk;exact rfl)|(apply wD pk [] [];kernel_rfl;exact rfl;exact rfl)|(apply aB;simp only [zqt,zqf])|(refine aD rfl (fun h=> ?_) (fun h=> ?_)<;>(try simp at h)<;>try (exfalso;omega))|(refine aF ?_;refine ⟨_,_,_,rfl,Wk.refl _,StSub.refl _, ?_,rfl⟩;try rfl)|(intros;(try simp only [zql]);omega))))
  refine acO 9 75 5 [_] rfl rfl rfl (fun id hid=> ?_)
  refine aO (X:={x:Nat×Nat//x.1≤l.cells_.length∧st x.2=none}) (fun i=>((((((((St.nil 82 (upd st i.1.2 (some (.arr 75 ((N.take i.1.1).map Cl.cells))))).pv 2 (.seq (rows.map r2C))).var 4 52 (t.cells)).var 5 43 (l.cells)).var 7 30 (who.cells)).var 8 43 ([(PV.val (Value.int .i64 (0))), .val (.slice none 0 0), .val (.slice none 0 0)])).var 9 43 ([(PV.val (Value.int .i64 (l.key))), .vec i.1.2 5 0 i.1.1, .seq (l.by_.map Dt.cells)])).pv 10 ((PV.val (Value.int .i64 ((i.1.1:Nat))))))) (fun i=>l.cells_.length-i.1.1) ⟨(0,id),by simp,hid⟩ ?_ (fun i=> ?_)
  · dsimp only
    (first|exact Sub.nil _ _ _ (StSub.refl _) rfl|((repeat (first|refine Sub.pv ?_ rfl|refine Sub.var ?_ rfl rfl));(first|exact Sub.nil _ _ _ (StSub.refl _) rfl|exact Sub.nil _ _ _ (aP (by assumption)) rfl|exact Sub.nil _ _ _ (aJ (by first|rfl|exact aT (by assumption)|((simp only [St.pv,St.put,St.sst,St.setv,St.nil,St.var,aK]);first|done|rfl))) rfl|(refine Sub.nil _ _ _ (aJ ?_) rfl;(simp only [St.pv,St.put,St.sst,St.setv,St.nil,St.var,aK]);(rw [cI (by assumption)]);first|done|rfl))))
  obtain ⟨⟨i,id⟩,hi,hid⟩:=i
  simp only at hi hid
  dsimp only
  have hlT:(N.take i).length=i:=by rw [List.length_take];omega
  by_cases hend:l.cells_.length≤i
  · obtain rfl:i=l.cells_.length:=by omega
    rw [List.take_of_length_le (by omega)]
    have hwN:=hwr N st
    have hzz:FzL id 5 (N.map Cl.cells) [.agg [(PV.val (Value.int .i64 (l.key))), .vec id 5 0 l.cells_.length, .seq (l.by_.map Dt.cells)], .agg who.cells] [.agg [(PV.val (Value.int .i64 (l.key))), .seq (N.map Cl.cells), .seq (l.by_.map Dt.cells)], .agg who.cells]:= .cons (.agg (.cons .refl (.cons (fE hlN) (.cons .refl .nil)))) (.cons .refl .nil)
    (try (apply wO pk;exact rfl));(repeat' (first|((refine aF ?_;exact ⟨_,_,st,rfl,Wk.refl _,aG (aG (StSub.refl _) hid) hid,rfl,rfl⟩))|(show All _;constructor)|(show Imp _ _;constructor)|(show ImpX _ _ _ _;constructor)|(apply wC pk;(iterate 2 exact rfl))|(apply wE pk;(iterate 2 exact rfl))|(apply wX pk;exact rfl)|(apply wN pk;exact rfl)|(apply wDx pk;exact rfl;kernel_rfl;exact rfl;exact rfl)|(apply aB;simp only [zqt,zqf])|(refine aD rfl (fun h=> ?_) (fun h=> ?_)<;>(try simp at h)<;>try (exfalso;omega))|(refine aF ?_;first|(refine ⟨_,_,_,rfl,Wk.refl _,StSub.refl _, ?_,rfl⟩;(first|rfl))|(refine ⟨_,_,_,rfl,Wk.refl _,aQ (by assumption), ?_,rfl⟩;(first|rfl))|(refine ⟨_,_,_,rfl,Wk.soft _,StSub.refl _, ?_,rfl⟩;(first|rfl))|(refine ⟨_,_,_,rfl,Wk.soft _,aQ (by assumption), ?_,rfl⟩;(first|rfl))|(refine ⟨_,_,_,rfl,Wk.refl _,StSub.refl _, ?_,rfl⟩)|(refine ⟨_,_,_,rfl,Wk.soft _,aQ (by assumption), ?_,rfl⟩))|(apply ncA;(iterate 3 exact rfl);rotate_left;exact rfl;exact rfl)|(apply ldR pk;exact rfl;exact rfl;rotate_left;exact rfl;(focus ((repeat (first|exact aA _ _ _|assumption|refine (aC (by assumption)).trans ?_));done));exact rfl;exact rfl)|(apply stR pk;exact rfl;exact rfl;(focus ((repeat (first|exact aA _ _ _|assumption|refine (aC (by assumption)).trans ?_));done));exact rfl;exact rfl)|(apply bT;exact rfl;exact rfl;(apply (PC.freezeZ (aA _ _ _) yW hzz (hwr N _))<;>first|exact aA _ _ _|assumption|omega|(focus ((repeat (first|exact aA _ _ _|assumption|refine (aC (by assumption)).trans ?_));done)));(iterate 3 exact rfl);intro _ st' hR;obtain ⟨rfl,rfl⟩:=hR)|(apply bT;exact rfl;exact rfl;(first|(apply fail_no_spec<;>first|exact aA _ _ _|assumption|omega|(simp only [zqs];omega)|(focus ((repeat (first|exact aA _ _ _|assumption|refine (aC (by assumption)).trans ?_));done))));(iterate 3 exact rfl);intro _ st' hR;(first|subst hR|obtain ⟨rfl,rfl⟩:=hR))|(intros;(try simp only [zql]);omega)))
  have hil:i<l.cells_.length:=by omega
  have hAt:=hAt i hil
  obtain ⟨c,hce⟩:∃c,l.cells_[i]=c:=⟨_,rfl⟩
  rw [hce] at hAt
  have hgc:(l.cells_.map Cl.cells)[i]?=some c.cells:=by rw [List.getElem?_map,List.getElem?_eq_getElem hil,hce];rfl
  have e:∀x,N[i]'(by omega)=x→N.take (i+1)=N.take i++[x]:=fun x h=>by rw [List.take_succ_eq_append_getElem (by omega),h]
  focus ((try (apply wO pk;exact rfl));(repeat' (first|(show All _;constructor)|(show Imp _ _;constructor)|(show ImpX _ _ _ _;constructor)|(apply wC pk;(iterate 2 exact rfl))|(apply wE pk;(iterate 2 exact rfl))|(apply wX pk;exact rfl)|(apply wN pk;exact rfl)|(apply wDx pk;exact rfl;kernel_rfl;exact rfl;exact rfl)|(apply aB;simp only [zqt,zqf])|(refine aD rfl (fun h=> ?_) (fun h=> ?_)<;>(try simp at h)<;>try (exfalso;omega))|((try refine aF ?_);refine ⟨_,_,_,rfl,Wk.refl _,StSub.refl _, ?_⟩)|(apply aW pk;(iterate 6 exact rfl);rotate_left;exact rfl;(intro hw;exact rfl);(intro hw;apply hgc<;>omega);(intro _;exact rfl);exact rfl)|(apply ncA;(iterate 3 exact rfl);rotate_left;exact rfl;exact rfl)|(apply ldR pk;exact rfl;exact rfl;rotate_left;exact rfl;(focus ((repeat (first|exact aA _ _ _|assumption|refine (aC (by assumption)).trans ?_));done));exact rfl;exact rfl)|(apply stR pk;exact rfl;exact rfl;(focus ((repeat (first|exact aA _ _ _|assumption|refine (aC (by assumption)).trans ?_));done));exact rfl;exact rfl)|(intros;(try simp only [zql]);omega))))
  refine aO (X:={x:Nat×Bool//x.1≤t.foreign.length∧x.2=(t.foreign.take x.1).any fun f=>decide (f.col=(i:Int))&&jN rows l f}) (fun y=>((((((((((St.nil 82 (upd st id (some (.arr 75 ((N.take i).map Cl.cells))))).pv 2 (.seq (rows.map r2C))).var 4 52 (t.cells)).var 5 43 (l.cells)).var 7 30 (who.cells)).var 8 43 ([(PV.val (Value.int .i64 (0))), .val (.slice none 0 0), .val (.slice none 0 0)])).var 9 43 ([(PV.val (Value.int .i64 (l.key))), .vec id 5 0 i, .seq (l.by_.map Dt.cells)])).pv 10 ((PV.val (Value.int .i64 ((i:Nat)))))).var 11 75 (vD y.1.2 c)).pv 12 ((PV.val (Value.int .i64 ((y.1.1:Nat))))))) (fun y=>t.foreign.length-y.1.1) ⟨(0,false),by simp,by simp⟩ ?_ (fun y=> ?_)
  · dsimp only [vD]
    (first|exact Sub.nil _ _ _ (StSub.refl _) rfl|((repeat (first|refine Sub.pv ?_ rfl|refine Sub.var ?_ rfl rfl));(first|exact Sub.nil _ _ _ (StSub.refl _) rfl|exact Sub.nil _ _ _ (aP (by assumption)) rfl|exact Sub.nil _ _ _ (aJ (by first|rfl|exact aT (by assumption)|((simp only [St.pv,St.put,St.sst,St.setv,St.nil,St.var,aK]);first|done|rfl))) rfl|(refine Sub.nil _ _ _ (aJ ?_) rfl;(simp only [St.pv,St.put,St.sst,St.setv,St.nil,St.var,aK]);(rw [cI (by assumption)]);first|done|rfl))))
  obtain ⟨⟨y,z⟩,hy,hz⟩:=y
  simp only at hy hz
  dsimp only
  by_cases hend2:t.foreign.length≤y
  · rw [List.take_of_length_le hend2] at hz
    rw [←hz] at hAt
    cases z with
    |true=>
      have e:=e _ hAt
      rw [if_pos rfl] at e
      dsimp only [vD]
      refine arS 11 rfl (.cons (Wk.refl _) (.cons (Wk.refl _) (.cons (Wk.refl _) (.cons (Wk.refl _) (.cons Wk.nil .nil))))) ?_
      (try (apply wO pk;exact rfl));(repeat' (first|(show All _;constructor)|(show Imp _ _;constructor)|(show ImpX _ _ _ _;constructor)|(apply wC pk;(iterate 2 exact rfl))|(apply wE pk;(iterate 2 exact rfl))|(apply wX pk;exact rfl)|(apply wN pk;exact rfl)|(apply wDx pk;exact rfl;kernel_rfl;exact rfl;exact rfl)|(apply aB;simp only [zqt,zqf])|(refine aD rfl (fun h=> ?_) (fun h=> ?_)<;>(try simp at h)<;>try (exfalso;omega))|((try refine aF ?_);refine ⟨_,_,_,rfl,Wk.refl _,StSub.refl _, ?_⟩)|(apply ncA;(iterate 3 exact rfl);rotate_left;exact rfl;exact rfl)|(apply ldR pk;exact rfl;exact rfl;rotate_left;exact rfl;(focus ((repeat (first|exact aA _ _ _|assumption|refine (aC (by assumption)).trans ?_));done));exact rfl;exact rfl)|(apply stR pk;exact rfl;exact rfl;(focus ((repeat (first|exact aA _ _ _|assumption|refine (aC (by assumption)).trans ?_));done));exact rfl;exact rfl)|(apply apV pk (f:=Cl.cells) [Cl.zero] 64;(iterate 9 exact rfl);(focus ((repeat (first|exact aA _ _ _|assumption|refine (aC (by assumption)).trans ?_));done));(first|omega|assumption|(focus (simp;done))|(focus (simp;omega))|(focus (simp at*;omega)));exact fun _=>rfl;exact fun _=>rfl;exact mI;(first|omega|assumption|(focus (simp;done))|(focus (simp;omega))|(focus (simp at*;omega)));(first|omega|assumption|(focus (simp;done))|(focus (simp;omega))|(focus (simp at*;omega)));exact rfl;intro id' hid')|(apply ap0 pk (f:=Cl.cells) [Cl.zero] 64;(iterate 10 exact rfl);exact fun _=>rfl;exact fun _=>rfl;exact mI;(first|omega|assumption|(focus (simp;done))|(focus (simp;omega))|(focus (simp at*;omega)));(first|omega|assumption|(focus (simp;done))|(focus (simp;omega))|(focus (simp at*;omega)));exact rfl;intro id' hid')|(refine ⟨⟨(i+1,id'),by simp only;omega,dC hid'⟩, ?_,by simp only;omega⟩;((dsimp only;try rw [e]));(first|exact Sub.nil _ _ _ (StSub.refl _) rfl|((repeat (first|refine Sub.pv ?_ rfl|refine Sub.var ?_ rfl rfl|refine Sub.pv' ?_ rfl (by (first|rfl|simp))|refine Sub.var' ?_ rfl rfl (by (first|rfl|simp))));(first|exact Sub.nil _ _ _ (StSub.refl _) rfl|exact Sub.nil _ _ _ (aP (by assumption)) rfl|exact Sub.nil _ _ _ (aJ (by first|rfl|exact aT (by assumption)|((simp only [St.pv,St.put,St.sst,St.setv,St.nil,St.var,aK]);first|done|rfl))) rfl|(refine Sub.nil _ _ _ (aJ ?_) rfl;(simp only [St.pv,St.put,St.sst,St.setv,St.nil,St.var,aK]);(rw [cI (by assumption)]);first|done|rfl)))))|(intros;(try simp only [zql]);omega)))
    |false=>
      have e:=e _ hAt
      rw [if_neg (by simp)] at e
      dsimp only [vD]
      (try (apply wO pk;exact rfl));(repeat' (first|(show All _;constructor)|(show Imp _ _;constructor)|(show ImpX _ _ _ _;constructor)|(apply wC pk;(iterate 2 exact rfl))|(apply wE pk;(iterate 2 exact rfl))|(apply wX pk;exact rfl)|(apply wN pk;exact rfl)|(apply wDx pk;exact rfl;kernel_rfl;exact rfl;exact rfl)|(apply aB;simp only [zqt,zqf])|(refine aD rfl (fun h=> ?_) (fun h=> ?_)<;>(try simp at h)<;>try (exfalso;omega))|((try refine aF ?_);refine ⟨_,_,_,rfl,Wk.refl _,StSub.refl _, ?_⟩)|(apply ncA;(iterate 3 exact rfl);rotate_left;exact rfl;exact rfl)|(apply ldR pk;exact rfl;exact rfl;rotate_left;exact rfl;(focus ((repeat (first|exact aA _ _ _|assumption|refine (aC (by assumption)).trans ?_));done));exact rfl;exact rfl)|(apply stR pk;exact rfl;exact rfl;(focus ((repeat (first|exact aA _ _ _|assumption|refine (aC (by assumption)).trans ?_));done));exact rfl;exact rfl)|(apply apV pk (f:=Cl.cells) [c] 64;(iterate 9 exact rfl);(focus ((repeat (first|exact aA _ _ _|assumption|refine (aC (by assumption)).trans ?_));done));(first|omega|assumption|(focus (simp;done))|(focus (simp;omega))|(focus (simp at*;omega)));exact fun _=>rfl;exact fun _=>rfl;exact mI;(first|omega|assumption|(focus (simp;done))|(focus (simp;omega))|(focus (simp at*;omega)));(first|omega|assumption|(focus (simp;done))|(focus (simp;omega))|(focus (simp at*;omega)));exact rfl;intro id' hid')|(apply ap0 pk (f:=Cl.cells) [c] 64;(iterate 10 exact rfl);exact fun _=>rfl;exact fun _=>rfl;exact mI;(first|omega|assumption|(focus (simp;done))|(focus (simp;omega))|(focus (simp at*;omega)));(first|omega|assumption|(focus (simp;done))|(focus (simp;omega))|(focus (simp at*;omega)));exact rfl;intro id' hid')|(refine ⟨⟨(i+1,id'),by simp only;omega,dC hid'⟩, ?_,by simp only;omega⟩;((dsimp only;try rw [e]));(first|exact Sub.nil _ _ _ (StSub.refl _) rfl|((repeat (first|refine Sub.pv ?_ rfl|refine Sub.var ?_ rfl rfl|refine Sub.pv' ?_ rfl (by (first|rfl|simp))|refine Sub.var' ?_ rfl rfl (by (first|rfl|simp))));(first|exact Sub.nil _ _ _ (StSub.refl _) rfl|exact Sub.nil _ _ _ (aP (by assumption)) rfl|exact Sub.nil _ _ _ (aJ (by first|rfl|exact aT (by assumption)|((simp only [St.pv,St.put,St.sst,St.setv,St.nil,St.var,aK]);first|done|rfl))) rfl|(refine Sub.nil _ _ _ (aJ ?_) rfl;(simp only [St.pv,St.put,St.sst,St.setv,St.nil,St.var,aK]);(rw [cI (by assumption)]);first|done|rfl)))))|(intros;(try simp only [zql]);omega)))
  have hyl:y<t.foreign.length:=by omega
  have hsn:=abS (p:=fun f=>decide (f.col=(i:Int))&&jN rows l f) hyl
  rw [←hz] at hsn
  obtain ⟨f,hfe⟩:∃f,t.foreign[y]=f:=⟨_,rfl⟩
  have hp:=pB l f.col (hR _ (hfe▸List.getElem_mem hyl))
  rw [hfe] at hsn
  have hgf:(t.foreign.map Fr.cells)[y]?=some f.cells:=by rw [List.getElem?_map,List.getElem?_eq_getElem hyl,hfe];rfl
  clear hz hAt e hwr
  have hW:∀w:Bool,(z||(decide (f.col=(i:Int))&&jN rows l f))=w→w=(t.foreign.take (y+1)).any fun f=>decide (f.col=(i:Int))&&jN rows l f:=fun w h=>by rw [hsn,h]
  clear hsn
  cases hpt:ptP l f.col with
  |none=>
    have hh:jN rows l f=false:=by unfold jN;rw [mV hpt];rfl
    rw [hpt] at hp
    have hn:=mH rows (f.table,0) hr
    have hU:=hW z (by rw [hh,Bool.and_false,Bool.or_false])
    clear hW
    cases z
    all_goals dsimp only [vD]
    all_goals focus ((try (apply wO pk;exact rfl));(repeat' (first|(show All _;constructor)|(show Imp _ _;constructor)|(show ImpX _ _ _ _;constructor)|(apply wC pk;(iterate 2 exact rfl))|(apply wE pk;(iterate 2 exact rfl))|(apply wX pk;exact rfl)|(apply wN pk;exact rfl)|(apply wDx pk;exact rfl;kernel_rfl;exact rfl;exact rfl)|(apply aB;simp only [zqt,zqf])|(refine aD rfl (fun h=> ?_) (fun h=> ?_)<;>(try simp at h)<;>try (exfalso;omega))|((try refine aF ?_);refine ⟨_,_,_,rfl,Wk.refl _,StSub.refl _, ?_⟩)|(apply aN;(iterate 3 exact rfl);(intro _;(first|apply hp|apply hn)<;>first|assumption|omega);rotate_left;(iterate 2 exact rfl))|(apply bZ;(iterate 3 exact rfl);(intro _;(first|apply hp|apply hn)<;>first|assumption|omega);rotate_left;(iterate 2 exact rfl))|(apply aW pk;(iterate 6 exact rfl);rotate_left;exact rfl;(intro hw;exact rfl);(intro hw;apply hgf<;>omega);(intro _;exact rfl);exact rfl)|(apply ncA;(iterate 3 exact rfl);rotate_left;exact rfl;exact rfl)|(apply ldR pk;exact rfl;exact rfl;rotate_left;exact rfl;(focus ((repeat (first|exact aA _ _ _|assumption|refine (aC (by assumption)).trans ?_));done));exact rfl;exact rfl)|(apply stR pk;exact rfl;exact rfl;(focus ((repeat (first|exact aA _ _ _|assumption|refine (aC (by assumption)).trans ?_));done));exact rfl;exact rfl)|((first|refine ⟨⟨(y+1,false),by simp only;omega,hU⟩, ?_,by simp only;omega⟩|refine ⟨⟨(y+1,true),by simp only;omega,hU⟩, ?_,by simp only;omega⟩);((dsimp only [vD]));(first|exact Sub.nil _ _ _ (StSub.refl _) rfl|((repeat (first|refine Sub.pv ?_ rfl|refine Sub.var ?_ rfl rfl));(first|exact Sub.nil _ _ _ (StSub.refl _) rfl|exact Sub.nil _ _ _ (aP (by assumption)) rfl|exact Sub.nil _ _ _ (aJ (by first|rfl|exact aT (by assumption)|((simp only [St.pv,St.put,St.sst,St.setv,St.nil,St.var,aK]);first|done|rfl))) rfl|(refine Sub.nil _ _ _ (aJ ?_) rfl;(simp only [St.pv,St.put,St.sst,St.setv,St.nil,St.var,aK]);(rw [cI (by assumption)]);first|done|rfl)))))|(intros;(try simp only [zql]);omega)|((exfalso;first|(simp only [g1,g2,g3] at*;simp at*;done)|grind)))))
  |some k=>
    rw [hpt] at hp
    have hn:=mH rows (f.table,k) hr
    have hh:jN rows l f=(inR rows (f.table,k)&&decide (f.act=2)):=by unfold jN;rw [mO hpt]
    generalize inR rows (f.table,k)=B at*
    by_cases hyes:f.col=(i:Int)∧f.act=2∧B=true
    · have hU:=hW true (by rw [hh,decide_eq_true hyes.1,decide_eq_true hyes.2.1,hyes.2.2];simp)
      clear hW hh
      obtain ⟨g1,g2,g3⟩:=hyes
      cases z
      all_goals dsimp only [vD]
      all_goals focus ((try (apply wO pk;exact rfl));(repeat' (first|(show All _;constructor)|(show Imp _ _;constructor)|(show ImpX _ _ _ _;constructor)|(apply wC pk;(iterate 2 exact rfl))|(apply wE pk;(iterate 2 exact rfl))|(apply wX pk;exact rfl)|(apply wN pk;exact rfl)|(apply wDx pk;exact rfl;kernel_rfl;exact rfl;exact rfl)|(apply aB;simp only [zqt,zqf])|(refine aD rfl (fun h=> ?_) (fun h=> ?_)<;>(try simp at h)<;>try (exfalso;omega))|((try refine aF ?_);refine ⟨_,_,_,rfl,Wk.refl _,StSub.refl _, ?_⟩)|(apply aN;(iterate 3 exact rfl);(intro _;(first|apply hp|apply hn)<;>first|assumption|omega);rotate_left;(iterate 2 exact rfl))|(apply bZ;(iterate 3 exact rfl);(intro _;(first|apply hp|apply hn)<;>first|assumption|omega);rotate_left;(iterate 2 exact rfl))|(apply aW pk;(iterate 6 exact rfl);rotate_left;exact rfl;(intro hw;exact rfl);(intro hw;apply hgf<;>omega);(intro _;exact rfl);exact rfl)|(apply ncA;(iterate 3 exact rfl);rotate_left;exact rfl;exact rfl)|(apply ldR pk;exact rfl;exact rfl;rotate_left;exact rfl;(focus ((repeat (first|exact aA _ _ _|assumption|refine (aC (by assumption)).trans ?_));done));exact rfl;exact rfl)|(apply stR pk;exact rfl;exact rfl;(focus ((repeat (first|exact aA _ _ _|assumption|refine (aC (by assumption)).trans ?_));done));exact rfl;exact rfl)|(refine ⟨⟨(y+1,true),by simp only;omega,hU⟩, ?_,by simp only;omega⟩;((dsimp only [vD]));(first|exact Sub.nil _ _ _ (StSub.refl _) rfl|((repeat (first|refine Sub.pv ?_ rfl|refine Sub.var ?_ rfl rfl));(first|exact Sub.nil _ _ _ (StSub.refl _) rfl|exact Sub.nil _ _ _ (aP (by assumption)) rfl|exact Sub.nil _ _ _ (aJ (by first|rfl|exact aT (by assumption)|((simp only [St.pv,St.put,St.sst,St.setv,St.nil,St.var,aK]);first|done|rfl))) rfl|(refine Sub.nil _ _ _ (aJ ?_) rfl;(simp only [St.pv,St.put,St.sst,St.setv,St.nil,St.var,aK]);(rw [cI (by assumption)]);first|done|rfl)))))|(intros;(try simp only [zql]);omega)|((exfalso;first|(simp only [g1,g2,g3] at*;simp at*;done)|grind)))))
    · have hU:=hW z (by
        rw [hh]
        cases z
        · simp only [Bool.false_or]
          rw [←Bool.not_eq_true]
          simp only [Bool.and_eq_true,decide_eq_true_eq]
          exact fun q=>hyes ⟨q.1,q.2.2,q.2.1⟩
        · simp)
      clear hW hh
      cases z
      all_goals dsimp only [vD]
      all_goals focus ((try (apply wO pk;exact rfl));(repeat' (first|(show All _;constructor)|(show Imp _ _;constructor)|(show ImpX _ _ _ _;constructor)|(apply wC pk;(iterate 2 exact rfl))|(apply wE pk;(iterate 2 exact rfl))|(apply wX pk;exact rfl)|(apply wN pk;exact rfl)|(apply wDx pk;exact rfl;kernel_rfl;exact rfl;exact rfl)|(apply aB;simp only [zqt,zqf])|(refine aD rfl (fun h=> ?_) (fun h=> ?_)<;>(try simp at h)<;>try (exfalso;omega))|((try refine aF ?_);refine ⟨_,_,_,rfl,Wk.refl _,StSub.refl _, ?_⟩)|(apply aN;(iterate 3 exact rfl);(intro _;(first|apply hp|apply hn)<;>first|assumption|omega);rotate_left;(iterate 2 exact rfl))|(apply bZ;(iterate 3 exact rfl);(intro _;(first|apply hp|apply hn)<;>first|assumption|omega);rotate_left;(iterate 2 exact rfl))|(apply aW pk;(iterate 6 exact rfl);rotate_left;exact rfl;(intro hw;exact rfl);(intro hw;apply hgf<;>omega);(intro _;exact rfl);exact rfl)|(apply ncA;(iterate 3 exact rfl);rotate_left;exact rfl;exact rfl)|(apply ldR pk;exact rfl;exact rfl;rotate_left;exact rfl;(focus ((repeat (first|exact aA _ _ _|assumption|refine (aC (by assumption)).trans ?_));done));exact rfl;exact rfl)|(apply stR pk;exact rfl;exact rfl;(focus ((repeat (first|exact aA _ _ _|assumption|refine (aC (by assumption)).trans ?_));done));exact rfl;exact rfl)|((first|refine ⟨⟨(y+1,false),by simp only;omega,hU⟩, ?_,by simp only;omega⟩|refine ⟨⟨(y+1,true),by simp only;omega,hU⟩, ?_,by simp only;omega⟩);((dsimp only [vD]));(first|exact Sub.nil _ _ _ (StSub.refl _) rfl|((repeat (first|refine Sub.pv ?_ rfl|refine Sub.var ?_ rfl rfl));(first|exact Sub.nil _ _ _ (StSub.refl _) rfl|exact Sub.nil _ _ _ (aP (by assumption)) rfl|exact Sub.nil _ _ _ (aJ (by first|rfl|exact aT (by assumption)|((simp only [St.pv,St.put,St.sst,St.setv,St.nil,St.var,aK]);first|done|rfl))) rfl|(refine Sub.nil _ _ _ (aJ ?_) rfl;(simp only [St.pv,St.put,St.sst,St.setv,St.nil,St.var,aK]);(rw [cI (by assumption)]);first|done|rfl)))))|(intros;(try simp only [zql]);omega)|((exfalso;first|(simp only [g1,g2,g3] at*;simp at*;done)|grind)))))
end Go.Proofs.YtddmbnddgiebgaaGreatDoor
