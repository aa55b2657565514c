import Derived.Test.YtcglimangneafaaGreatDoorCkAwake
set_option linter.unusedSimpArgs false
set_option linter.unusedVariables false
namespace Go.Proofs.YtcglimangneafaaGreatDoor
open Go Go.Abs
attribute [local irreducible] Ev PWp
set_option maxRecDepth 10000
set_option maxHeartbeats 4000000
theorem ajB :Tryz.prog.bytesOf 69=16:=by kernel_rfl
theorem asK :Tryz.prog.cellsOf 69=2:=by kernel_rfl
def auX (s:Sc) (a:Int) (k:Nat):List (Nat×Nat):=((List.range s[k]!.foreign.length).filter fun i=>decide (s[k]!.foreign[i]!.table=a)).map fun i=>(k,i)
def nJ (s:Sc) (a:Int):List (Nat×Nat):=(List.range s.length).flatMap (auX s a)
theorem xC {s:Sc} {a:Int} {x:Nat×Nat}:x∈nJ s a↔x.1<s.length∧x.2<s[x.1]!.foreign.length∧s[x.1]!.foreign[x.2]!.table=a:=by
  simp only [nJ,auX,List.mem_flatMap,List.mem_range,List.mem_map,List.mem_filter,decide_eq_true_eq]
  constructor
  · rintro ⟨k,hk,i,⟨hi,e⟩,rfl⟩
    exact ⟨hk,hi,e⟩
  · rintro ⟨h1,h2,h3⟩
    exact ⟨x.1,h1,x.2,⟨h2,h3⟩,rfl⟩
def kkC (x:Nat×Nat):List PV:=[(PV.val (Value.int .i64 ((x.1:Nat)))),(PV.val (Value.int .i64 ((x.2:Nat))))]
def mB (s:Sc) (a:Int) (k y:Nat):List (Nat×Nat):=((List.range y).filter fun i=>decide (s[k]!.foreign[i]!.table=a)).map fun i=>(k,i)
def mC (s:Sc) (a:Int) (k:Nat):List (Nat×Nat):=(List.range k).flatMap (auX s a)
theorem afO {α:Type} (p:α→Bool) (y:α):[y].filter p=if p y=true then [y] else []:=by by_cases h:p y=true<;>simp [h]
theorem auG (s:Sc) (a:Int) (k y:Nat):mB s a k (y+1)=if s[k]!.foreign[y]!.table=a then mB s a k y++[(k,y)] else mB s a k y:=by
  unfold mB
  rw [List.range_succ,List.filter_append,List.map_append,afO]
  by_cases h:s[k]!.foreign[y]!.table=a
  · rw [if_pos h,if_pos (decide_eq_true h)];rfl
  · rw [if_neg h,if_neg (by rw [decide_eq_false h];simp)];simp
theorem aiF (s:Sc) (a:Int) (k:Nat):mC s a (k+1)=mC s a k++mB s a k s[k]!.foreign.length:=by
  unfold mC
  rw [List.range_succ,List.flatMap_append]
  simp [auX,mB]
theorem acN (s:Sc) (a:Int) (k y:Nat):(mB s a k y).length≤y:=by
  unfold mB
  rw [zql]
  exact Nat.le_trans (List.length_filter_le ..) (by simp)
theorem uN (s:Sc) (a:Int) (h:∀k (h:k<s.length),s[k].foreign.length≤16):∀k,k≤s.length→(mC s a k).length≤16*k
  |0,_=>by simp [mC]
  |k+1,hk=>by
    have h1:=uN s a h k (by omega)
    have h2:=acN s a k s[k]!.foreign.length
    have h3:=h k (by omega)
    rw [aiF,List.length_append]
    rw [getElem!_pos s k (by omega)] at h2⊢
    omega
theorem asY (s:Sc) (a:Int) (hs:s.length≤16) (h16:∀k (h:k<s.length),s[k].foreign.length≤16) (st:aO):PC Tryz.prog 26 [.agg (scC s),(PV.val (Value.int .i64 (a)))] st fun r S=>∃id,r= .vec id 2 0 (nJ s a).length∧st id=none∧S=upd st id (some (.arr 69 ((nJ s a).map kkC))):=by
  have hlO:=uN s a h16
  refine eD aG Tryz.func26 (by kernel_rfl) rfl rfl rfl rfl ?_
  focus ((try (apply wO pk;exact rfl));(repeat' (first|(show All _;constructor)|(show Imp _ _;constructor)|(show ImpX _ _ _ _;constructor)|(apply wC pk;(iterate 2 exact rfl))|(apply wE pk;(iterate 2 exact rfl))|(apply wX pk;exact rfl)|(apply wN pk;exact rfl)|(apply wD pk [] [];kernel_rfl;exact rfl;exact rfl)|(apply aB;simp only [zqt,zqf])|(refine aC rfl (fun h=> ?_) (fun h=> ?_)<;>(try simp at h)<;>try (exfalso;omega))|(refine aD ?_;refine ⟨_,_,_,rfl,Wk.refl _,StSub.refl _, ?_,rfl⟩;try rfl)|(intros;(try simp only [zql]);omega))))
  refine kT 5 69 2 rfl rfl rfl (fun id hid=> ?_)
  refine aP (X:={x:Nat×Nat//x.1≤s.length∧st x.2=none}) (fun i=>((((((St.nil 39 (upd st i.1.2 (some (.arr 69 ((mC s a i.1.1).map kkC))))).pv 1 ((PV.val (Value.int .i64 (a))))).pv 5 (.vec i.1.2 2 0 (mC s a i.1.1).length)).pv 11 (.seq (s.map Tb.cells))).pv 12 ((PV.val (Value.int .i64 (((s.map Tb.cells).length:Nat)))))).pv 13 ((PV.val (Value.int .i64 ((i.1.1:Nat))))))) (fun i=>s.length-i.1.1) ⟨(0,id),by simp,hid⟩ ?_ (fun i=> ?_)
  · dsimp only
    (first|exact Sub.nil _ _ _ (StSub.refl _) rfl|((repeat (first|refine Sub.pv ?_ rfl|refine Sub.var ?_ rfl rfl));(first|exact Sub.nil _ _ _ (StSub.refl _) rfl|exact Sub.nil _ _ _ (aQ (by assumption)) rfl|exact Sub.nil _ _ _ (aJ (by first|rfl|exact aV (by assumption)|((simp only [St.pv,St.put,St.sst,St.setv,St.nil,St.var,aN]);first|done|rfl))) rfl|(refine Sub.nil _ _ _ (aJ ?_) rfl;(simp only [St.pv,St.put,St.sst,St.setv,St.nil,St.var,aN]);(rw [cX (by assumption)]);first|done|rfl))))
  obtain ⟨⟨i,id⟩,hi,hid⟩:=i
  simp only at hi hid
  dsimp only
  have hlo:=hlO i hi
  by_cases hend:s.length≤i
  · obtain rfl:i=s.length:=by omega
    (try (apply wO pk;exact rfl));(repeat' (first|(show All _;constructor)|(show Imp _ _;constructor)|(show ImpX _ _ _ _;constructor)|(apply wC pk;(iterate 2 exact rfl))|(apply wE pk;(iterate 2 exact rfl))|(apply wX pk;exact rfl)|(apply wN pk;exact rfl)|(apply wDx pk;exact rfl;kernel_rfl;exact rfl;exact rfl)|(apply aB;simp only [zqt,zqf])|(refine aC rfl (fun h=> ?_) (fun h=> ?_)<;>(try simp at h)<;>try (exfalso;omega))|((try refine aD ?_);(first|(refine ⟨_,_,_,rfl,Wk.refl _,StSub.refl _, ?_⟩;(exact ⟨id,rfl,hid,rfl⟩);done)|(refine ⟨_,_, ?zs,rfl,Wk.refl _, ?zh, ?zr⟩;(case zh=>(refine aI ?_ (by assumption);(repeat refine aI ?_ (by assumption));exact StSub.refl _));(case zr=>(exact ⟨id,rfl,hid,rfl⟩)))|refine ⟨_,_,_,rfl,Wk.refl _,StSub.refl _, ?_⟩))|(apply ncA;(iterate 3 exact rfl);rotate_left;exact rfl;exact rfl)|(apply ldR pk;exact rfl;exact rfl;rotate_left;exact rfl;(focus ((repeat (first|exact aA _ _ _|assumption|refine (aF (by assumption)).trans ?_));done));exact rfl;exact rfl)|(apply stR pk;exact rfl;exact rfl;(focus ((repeat (first|exact aA _ _ _|assumption|refine (aF (by assumption)).trans ?_));done));exact rfl;exact rfl)|(intros;(try simp only [zql]);omega)))
  have hil:i<s.length:=by omega
  have hf16:=h16 i hil
  have hOU:=aiF s a i
  have hIU:=auG s a i
  rw [getElem!_pos s i hil] at hOU hIU
  focus ((try (apply wO pk;exact rfl));(repeat' (first|(show All _;constructor)|(show Imp _ _;constructor)|(show ImpX _ _ _ _;constructor)|(apply wC pk;(iterate 2 exact rfl))|(apply wE pk;(iterate 2 exact rfl))|(apply wX pk;exact rfl)|(apply wN pk;exact rfl)|(apply wD pk [] [];kernel_rfl;exact rfl;exact rfl)|(apply aB;simp only [zqt,zqf])|(refine aC rfl (fun h=> ?_) (fun h=> ?_)<;>(try simp at h)<;>try (exfalso;omega))|(refine aD ?_;refine ⟨_,_,_,rfl,Wk.refl _,StSub.refl _, ?_,rfl⟩;try rfl)|(apply bC pk;(iterate 6 exact rfl);rotate_left;exact rfl;(intro hw;exact rfl);(intro hw;apply aM<;>omega);(intro _;exact rfl);exact rfl)|(intros;(try simp only [zql]);omega))))
  refine aP (X:={x:Nat×Nat//x.1≤s[i].foreign.length∧st x.2=none}) (fun y=>((((((((((St.nil 39 (upd st y.1.2 (some (.arr 69 ((mC s a i++mB s a i y.1.1).map kkC))))).pv 1 ((PV.val (Value.int .i64 (a))))).pv 5 (.vec y.1.2 2 0 (mC s a i++mB s a i y.1.1).length)).pv 6 ((PV.val (Value.int .i64 ((i:Nat)))))).pv 11 (.seq (s.map Tb.cells))).pv 12 ((PV.val (Value.int .i64 (((s.map Tb.cells).length:Nat)))))).pv 13 ((PV.val (Value.int .i64 ((i:Nat)))))).pv 19 (.seq (s[i].foreign.map Fr.cells))).pv 20 ((PV.val (Value.int .i64 (((s[i].foreign.map Fr.cells).length:Nat)))))).pv 21 ((PV.val (Value.int .i64 ((y.1.1:Nat))))))) (fun y=>s[i].foreign.length-y.1.1) ⟨(0,id),by simp,hid⟩ ?_ (fun y=> ?_)
  · dsimp only
    have e:mC s a i++mB s a i 0=mC s a i:=by simp [mB]
    rw [e]
    (first|exact Sub.nil _ _ _ (StSub.refl _) rfl|((repeat (first|refine Sub.pv ?_ rfl|refine Sub.var ?_ rfl rfl));(first|exact Sub.nil _ _ _ (StSub.refl _) rfl|exact Sub.nil _ _ _ (aQ (by assumption)) rfl|exact Sub.nil _ _ _ (aJ (by first|rfl|exact aV (by assumption)|((simp only [St.pv,St.put,St.sst,St.setv,St.nil,St.var,aN]);first|done|rfl))) rfl|(refine Sub.nil _ _ _ (aJ ?_) rfl;(simp only [St.pv,St.put,St.sst,St.setv,St.nil,St.var,aN]);(rw [cX (by assumption)]);first|done|rfl))))
  obtain ⟨⟨y,id⟩,hy,hid⟩:=y
  simp only at hy hid
  dsimp only
  have hli:=acN s a i y
  have hlA:(mC s a i++mB s a i y).length≤1000:=by rw [List.length_append];omega
  by_cases hend2:s[i].foreign.length≤y
  obtain rfl:y=s[i].foreign.length:=by omega
  rw [←hOU]
  rotate_left
  have hyl:y<s[i].foreign.length:=by omega
  have hIU:=hIU y
  rw [getElem!_pos s[i].foreign y hyl] at hIU
  by_cases hk:s[i].foreign[y].table=a
  rw [if_pos hk] at hIU
  have e:mC s a i++mB s a i (y+1)=(mC s a i++mB s a i y)++[(i,y)]:=by rw [hIU,List.append_assoc]
  have el:(mC s a i++mB s a i (y+1)).length=(mC s a i++mB s a i y).length+1:=by rw [e,List.length_append];rfl
  generalize mC s a i++mB s a i y=A at*
  rotate_left
  rw [if_neg hk] at hIU
  rw [←hIU]
  rotate_left
  all_goals ((try (apply wO pk;exact rfl));(repeat' (first|(show All _;constructor)|(show Imp _ _;constructor)|(show ImpX _ _ _ _;constructor)|(apply wC pk;(iterate 2 exact rfl))|(apply wE pk;(iterate 2 exact rfl))|(apply wX pk;exact rfl)|(apply wN pk;exact rfl)|(apply wD pk [] [];kernel_rfl;exact rfl;exact rfl)|(apply aB;simp only [zqt,zqf])|(refine aC rfl (fun h=> ?_) (fun h=> ?_)<;>(try simp at h)<;>try (exfalso;omega))|(refine aD ?_;first|(refine ⟨_,_,_,rfl,Wk.refl _,StSub.refl _, ?_,rfl⟩;(first|rfl))|(refine ⟨_,_,_,rfl,Wk.refl _,aH (by assumption), ?_,rfl⟩;(first|rfl))|(refine ⟨_,_,_,rfl,Wk.soft _,StSub.refl _, ?_,rfl⟩;(first|rfl))|(refine ⟨_,_,_,rfl,Wk.soft _,aH (by assumption), ?_,rfl⟩;(first|rfl))|(refine ⟨_,_,_,rfl,Wk.refl _,StSub.refl _, ?_,rfl⟩)|(refine ⟨_,_,_,rfl,Wk.soft _,aH (by assumption), ?_,rfl⟩))|(apply bC pk;(iterate 6 exact rfl);rotate_left;exact rfl;(intro hw;exact rfl);(intro hw;apply aM<;>omega);(intro _;exact rfl);exact rfl)|(apply apV pk (f:=kkC) [(i,y)] 16;(iterate 9 exact rfl);(focus ((repeat (first|exact aA _ _ _|assumption|refine (aF (by assumption)).trans ?_));done));(first|omega|assumption|(focus (simp;done))|(focus (simp;omega))|(focus (simp at*;omega)));exact fun _=>rfl;exact fun _=>rfl;exact ajB;(first|omega|assumption|(focus (simp;done))|(focus (simp;omega))|(focus (simp at*;omega)));(first|omega|assumption|(focus (simp;done))|(focus (simp;omega))|(focus (simp at*;omega)));exact rfl;intro id' hid')|(apply ap0 pk (f:=kkC) [(i,y)] 16;(iterate 10 exact rfl);exact fun _=>rfl;exact fun _=>rfl;exact ajB;(first|omega|assumption|(focus (simp;done))|(focus (simp;omega))|(focus (simp at*;omega)));(first|omega|assumption|(focus (simp;done))|(focus (simp;omega))|(focus (simp at*;omega)));exact rfl;intro id' hid')|((first|refine ⟨⟨(i+1,id),by simp only;omega,hid⟩, ?_,by simp only;omega⟩|refine ⟨⟨(y+1,id),by simp only;omega,hid⟩, ?_,by simp only;omega⟩);(first|exact Sub.nil _ _ _ (StSub.refl _) rfl|((repeat (first|refine Sub.pv ?_ rfl|refine Sub.var ?_ rfl rfl));(first|exact Sub.nil _ _ _ (StSub.refl _) rfl|exact Sub.nil _ _ _ (aQ (by assumption)) rfl|exact Sub.nil _ _ _ (aJ (by first|rfl|exact aV (by assumption)|((simp only [St.pv,St.put,St.sst,St.setv,St.nil,St.var,aN]);first|done|rfl))) rfl|(refine Sub.nil _ _ _ (aJ ?_) rfl;(simp only [St.pv,St.put,St.sst,St.setv,St.nil,St.var,aN]);(rw [cX (by assumption)]);first|done|rfl)))))|(refine ⟨⟨(y+1,id'),by simp only;omega,iZ hid'⟩, ?_,by simp only;omega⟩;((dsimp only;try rw [e]));(first|exact Sub.nil _ _ _ (StSub.refl _) rfl|((repeat (first|refine Sub.pv ?_ rfl|refine Sub.var ?_ rfl rfl|refine Sub.pv' ?_ rfl (by (first|rfl|(simp;done)|(simp;omega)))|refine Sub.var' ?_ rfl rfl (by (first|rfl|(simp;done)|(simp;omega)))));(first|exact Sub.nil _ _ _ (StSub.refl _) rfl|exact Sub.nil _ _ _ (aQ (by assumption)) rfl|exact Sub.nil _ _ _ (aJ (by first|rfl|exact aV (by assumption)|((simp only [St.pv,St.put,St.sst,St.setv,St.nil,St.var,aN]);first|done|rfl))) rfl|(refine Sub.nil _ _ _ (aJ ?_) rfl;(simp only [St.pv,St.put,St.sst,St.setv,St.nil,St.var,aN]);(rw [cX (by assumption)]);first|done|rfl)))))|(intros;(try simp only [zql]);omega))))
theorem akN (s:Sc) (a:Int) (hs:s.length≤16) (h16:∀k (h:k<s.length),s[k].foreign.length≤16):PF Tryz.prog 26 [.agg (scC s),(PV.val (Value.int .i64 (a)))] (.seq ((nJ s a).map kkC)):=fun st=>
  pA (sz:=2) (asY s a hs h16 st) fun p st' h=>by
    obtain ⟨id,rfl,h3,rfl⟩:=h
    exact .inl ⟨id,69,(nJ s a).map kkC,_,st,aA _ _ _,asK,lF rfl,eO h3,rfl,rfl⟩
end Go.Proofs.YtcglimangneafaaGreatDoor
