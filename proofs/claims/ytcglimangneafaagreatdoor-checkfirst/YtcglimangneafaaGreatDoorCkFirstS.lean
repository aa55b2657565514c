import Derived.Test.YtcglimangneafaaGreatDoorCkKeysS
import Derived.Test.YtcglimangneafaaGreatDoorAbsBor
set_option linter.unusedSimpArgs false
set_option linter.unusedVariables false
namespace Go.Proofs.YtcglimangneafaaGreatDoor
open Go Go.Abs
attribute [local irreducible] Ev PWp
set_option maxRecDepth 10000
set_option maxHeartbeats 4000000
def U8 (n:Int):List PV:=[.val (.int .u8 n)]
theorem xQ :Tryz.prog.bytesOf 53=56:=by kernel_rfl
theorem ajL :Tryz.prog.bytesOf 43=136:=by kernel_rfl
theorem akF :Tryz.prog.bytesOf 108=24:=by kernel_rfl
def lnN (i:Nat) (n:Int):Ln:=lnC i (n%4-1) (n/4%8-1) (n/32%3-1) (n/96-1)
def aaI (l:List Int) (i:Nat):Ln:=lnN i l[i]!
def cJ (l:List Int):List Ln:=(List.range l.length).map (aaI l)
theorem aoY (l:List Int) (i:Nat):(List.range (i+1)).map (aaI l)=(List.range i).map (aaI l)++[aaI l i]:=by rw [List.range_succ,List.map_append];rfl
theorem asT {id n:Nat} (L:List Ln) {st:aO} (hst:st id=some (.arr 53 (L.map Ln.cells))) (hn:L.length=n):PC Tryz.prog 28 [.vec id 3 0 n] st fun r S=>r= .agg (bsC [⟨L⟩])∧S=upd st id none:=
  PC.freezeZ hst gI (.cons (lF hn) .nil) (rP L _)
theorem sC (l:List Int) (hl:l.length≤10) (hu:∀x∈l,0≤x∧x≤255):PF Tryz.prog 20 [.seq (l.map U8)] (.agg (bsC [⟨cJ l⟩])):=by
  refine aK aG Tryz.func20 (by kernel_rfl) rfl rfl rfl rfl (fun st=> ?_)
  focus ((try (apply wO pk;exact rfl));(repeat' (first|(show All _;constructor)|(show Imp _ _;constructor)|(show ImpX _ _ _ _;constructor)|(apply wC pk;(iterate 2 exact rfl))|(apply wE pk;(iterate 2 exact rfl))|(apply wX pk;exact rfl)|(apply wN pk;exact rfl)|(apply wD pk [] [];kernel_rfl;exact rfl;exact rfl)|(apply aB;simp only [zqt,zqf])|(refine aC rfl (fun h=> ?_) (fun h=> ?_)<;>(try simp at h)<;>try (exfalso;omega))|(refine aD ?_;refine ⟨_,_,_,rfl,Wk.refl _,StSub.refl _, ?_,rfl⟩;try rfl)|(intros;(try simp only [zql]);omega))))
  refine kT 3 53 3 rfl rfl rfl (fun id hid=> ?_)
  have hid:st id=none:=hid
  refine aP (X:={x:Nat×Nat//x.1≤l.length∧st x.2=none}) (fun i=>(((((St.nil 38 (upd st i.1.2 (some (.arr 53 (((List.range i.1.1).map (aaI l)).map Ln.cells))))).pv 0 (.seq (l.map U8))).var 2 27 ([.val (.slice none 0 0)])).pv 3 (.vec i.1.2 3 0 i.1.1)).pv 4 ((PV.val (Value.int .i64 ((i.1.1:Nat))))))) (fun i=>l.length-i.1.1) ⟨(0,id),by simp,hid⟩ ?_ (fun i=> ?_)
  · dsimp only
    (first|exact Sub.nil _ _ _ (StSub.refl _) rfl|((repeat (first|refine Sub.pv ?_ rfl|refine Sub.var ?_ rfl rfl));(first|exact Sub.nil _ _ _ (StSub.refl _) rfl|exact Sub.nil _ _ _ (aQ (by assumption)) rfl|exact Sub.nil _ _ _ (aJ (by first|rfl|exact aV (by assumption)|((simp only [St.pv,St.put,St.sst,St.setv,St.nil,St.var,aN]);first|done|rfl))) rfl|(refine Sub.nil _ _ _ (aJ ?_) rfl;(simp only [St.pv,St.put,St.sst,St.setv,St.nil,St.var,aN]);(rw [cX (by assumption)]);first|done|rfl))))
  obtain ⟨⟨i,id⟩,hi,hid⟩:=i
  simp only at hi hid
  dsimp only
  have hll:(l.map U8).length=l.length:=zql _
  by_cases hend:l.length≤i
  · obtain rfl:i=l.length:=by omega
    have hof:=fun st hst=>asT (cJ l) (st:=st) (id:=id) (n:=l.length) hst (by unfold cJ;simp)
    (try (apply wO pk;exact rfl));(repeat' (first|((refine aD ?_;exact ⟨_,_,_,rfl,Wk.refl _,gV hid,rfl,rfl⟩))|(show All _;constructor)|(show Imp _ _;constructor)|(show ImpX _ _ _ _;constructor)|(apply wC pk;(iterate 2 exact rfl))|(apply wE pk;(iterate 2 exact rfl))|(apply wX pk;exact rfl)|(apply wN pk;exact rfl)|(apply wDx pk;exact rfl;kernel_rfl;exact rfl;exact rfl)|(apply aB;simp only [zqt,zqf])|(refine aC rfl (fun h=> ?_) (fun h=> ?_)<;>(try simp at h)<;>try (exfalso;omega))|((try refine aD ?_);refine ⟨_,_,_,rfl,Wk.refl _,StSub.refl _, ?_⟩)|(apply ncA;(iterate 3 exact rfl);rotate_left;exact rfl;exact rfl)|(apply ldR pk;exact rfl;exact rfl;rotate_left;exact rfl;(focus ((repeat (first|exact aA _ _ _|assumption|refine (aF (by assumption)).trans ?_));done));exact rfl;exact rfl)|(apply stR pk;exact rfl;exact rfl;(focus ((repeat (first|exact aA _ _ _|assumption|refine (aF (by assumption)).trans ?_));done));exact rfl;exact rfl)|(apply cT;exact rfl;exact rfl;(first|(apply (hof _ (aA _ _ _))<;>first|exact aA _ _ _|assumption|omega|(simp only [zqs];omega)|(focus ((repeat (first|exact aA _ _ _|assumption|refine (aF (by assumption)).trans ?_));done))));(iterate 3 exact rfl);intro _ st' hR;(first|subst hR|obtain ⟨rfl,rfl⟩:=hR))|(intros;(try simp only [zql]);omega)))
  have hil:i<l.length:=by omega
  have hu2:=hu _ (List.getElem_mem hil)
  have e:=aoY l i
  have hrn:aaI l i=lnN i l[i]:=by unfold aaI;rw [getElem!_pos l i hil]
  rw [hrn] at e
  unfold lnN at e
  have hrow:(l.map U8)[i]?=some (U8 l[i]):=by rw [List.getElem?_map,List.getElem?_eq_getElem hil];rfl
  generalize l[i]=n at*
  have hln:=dJ (i:Int) (n%4-1) (n/4%8-1) (n/32%3-1) (n/96-1)
  have hlen:((List.range i).map (aaI l)).length=i:=by simp
  generalize lnC (i:Int) (n%4-1) (n/4%8-1) (n/32%3-1) (n/96-1)=a at*
  (try (apply wO pk;exact rfl));(repeat' (first|(show All _;constructor)|(show Imp _ _;constructor)|(show ImpX _ _ _ _;constructor)|(apply wC pk;(iterate 2 exact rfl))|(apply wE pk;(iterate 2 exact rfl))|(apply wX pk;exact rfl)|(apply wN pk;exact rfl)|(apply wD pk [] [];kernel_rfl;exact rfl;exact rfl)|(apply aB;simp only [zqt,zqf])|(refine aC rfl (fun h=> ?_) (fun h=> ?_)<;>(try simp at h)<;>try (exfalso;omega))|(refine aD ?_;first|(refine ⟨_,_,_,rfl,Wk.refl _,StSub.refl _, ?_,rfl⟩;(first|rfl))|(refine ⟨_,_,_,rfl,Wk.refl _,aH (by assumption), ?_,rfl⟩;(first|rfl))|(refine ⟨_,_,_,rfl,Wk.soft _,StSub.refl _, ?_,rfl⟩;(first|rfl))|(refine ⟨_,_,_,rfl,Wk.soft _,aH (by assumption), ?_,rfl⟩;(first|rfl))|(refine ⟨_,_,_,rfl,Wk.refl _,StSub.refl _, ?_,rfl⟩)|(refine ⟨_,_,_,rfl,Wk.soft _,aH (by assumption), ?_,rfl⟩))|(apply aL;(iterate 3 exact rfl);(intro _;apply hln<;>first|assumption|omega);rotate_left;(iterate 2 exact rfl))|(apply bC pk;(iterate 6 exact rfl);rotate_left;exact rfl;(intro hw;exact rfl);(intro hw;apply hrow<;>omega);(intro _;exact rfl);exact rfl)|(apply apV pk (f:=Ln.cells) [a] 56;(iterate 9 exact rfl);(focus ((repeat (first|exact aA _ _ _|assumption|refine (aF (by assumption)).trans ?_));done));(first|omega|assumption|(focus (simp;done))|(focus (simp;omega))|(focus (simp at*;omega)));exact fun _=>rfl;exact fun _=>rfl;exact xQ;(first|omega|assumption|(focus (simp;done))|(focus (simp;omega))|(focus (simp at*;omega)));(first|omega|assumption|(focus (simp;done))|(focus (simp;omega))|(focus (simp at*;omega)));exact rfl;intro id' hid')|(apply ap0 pk (f:=Ln.cells) [a] 56;(iterate 10 exact rfl);exact fun _=>rfl;exact fun _=>rfl;exact xQ;(first|omega|assumption|(focus (simp;done))|(focus (simp;omega))|(focus (simp at*;omega)));(first|omega|assumption|(focus (simp;done))|(focus (simp;omega))|(focus (simp at*;omega)));exact rfl;intro id' hid')|(apply apF;(iterate 4 exact rfl);(first|omega|decide);(first|omega|decide);exact rfl)|(apply arS;(iterate 4 exact rfl);(first|omega|decide);(first|omega|decide);exact rfl)|(apply eG 7;(iterate 5 exact rfl);(first|omega|decide);exact rfl)|(apply eG 8;(iterate 5 exact rfl);(first|omega|decide);exact rfl)|(apply eG 13;(iterate 5 exact rfl);(first|omega|decide);exact rfl)|(apply eG 16;(iterate 5 exact rfl);(first|omega|decide);exact rfl)|(apply eG 17;(iterate 5 exact rfl);(first|omega|decide);exact rfl)|(apply eG 32;(iterate 5 exact rfl);(first|omega|decide);exact rfl)|(apply eG;(iterate 5 exact rfl);(first|omega|decide);exact rfl)|(apply eM 7;(iterate 5 exact rfl);(first|omega|decide);exact rfl)|(apply eM 8;(iterate 5 exact rfl);(first|omega|decide);exact rfl)|(apply eM 13;(iterate 5 exact rfl);(first|omega|decide);exact rfl)|(apply eM 16;(iterate 5 exact rfl);(first|omega|decide);exact rfl)|(apply eM 17;(iterate 5 exact rfl);(first|omega|decide);exact rfl)|(apply eM 32;(iterate 5 exact rfl);(first|omega|decide);exact rfl)|(apply eM;(iterate 5 exact rfl);(first|omega|decide);exact rfl)|(apply arU (b:=1);(iterate 5 exact rfl);(first|omega|decide);(first|omega|decide);exact rfl)|(apply cvA pk.htt;(iterate 5 exact rfl);(refine ⟨?_, ?_⟩<;>(first|omega|decide));exact rfl)|(refine ⟨⟨(i+1,id'),by simp only;omega,iZ hid'⟩, ?_,by simp only;omega⟩;((dsimp only;try rw [e]));(first|exact Sub.nil _ _ _ (StSub.refl _) rfl|((repeat (first|refine Sub.pv ?_ rfl|refine Sub.var ?_ rfl rfl|refine Sub.pv' ?_ rfl (by (first|rfl|simp))|refine Sub.var' ?_ rfl rfl (by (first|rfl|simp))));(first|exact Sub.nil _ _ _ (StSub.refl _) rfl|exact Sub.nil _ _ _ (aQ (by assumption)) rfl|exact Sub.nil _ _ _ (aJ (by first|rfl|exact aV (by assumption)|((simp only [St.pv,St.put,St.sst,St.setv,St.nil,St.var,aN]);first|done|rfl))) rfl|(refine Sub.nil _ _ _ (aJ ?_) rfl;(simp only [St.pv,St.put,St.sst,St.setv,St.nil,St.var,aN]);(rw [cX (by assumption)]);first|done|rfl)))))|(intros;(try simp only [zql]);omega)))
theorem avL {n:Int} (h:n≤1000):fF (vZ n)=true:=by
  unfold vZ
  split
  · rfl
  · unfold fF
    simp
    omega
theorem aqB {i:Nat} {n:Int} (name:ByteArray) (hi:i<1000) (h0:0≤n) (h1:n≤255):iN T.rightP (plT name) (lnN i n)=true:=by
  have hc:∀c∈(lnN i n).cells_,c.kind=0∧c.parts=[]∧fF c.val=true:=fun c hc=>by
    have hc:c∈[cV i,cV (n%4-1),cV (n/4%8-1),cV (n/32%3-1),cV (n/96-1)]:=hc
    simp only [List.mem_cons,List.not_mem_nil,or_false] at hc
    rcases hc with rfl|rfl|rfl|rfl|rfl<;>exact ⟨rfl,rfl,avL (by omega)⟩
  have hk:∀j (h:j<5),(plT name).cols[j]!.kind=0:=fun j h=>by
    have:j=0∨j=1∨j=2∨j=3∨j=4:=by omega
    rcases this with rfl|rfl|rfl|rfl|rfl<;>rfl
  refine ahP.2 ⟨by show (0:Int)≤(i:Int);omega,by show (i:Int)<1073741824;omega,rfl,fun j h=> ?_,fun c hc'=> ?_, ?_,rfl⟩
  · have h5:j<5:=h
    rw [hk j h5];exact (hc _ (List.getElem_mem h)).1
  · obtain ⟨h1,h2,h3⟩:=hc c hc'
    unfold tQ
    rw [if_pos h1,h3,h2];rfl
  · show (vZ (i:Int))=_
    unfold vZ
    rw [if_neg (by omega)];rfl
theorem oW (name:ByteArray) (l:List Int) (hl:l.length≤10) (hu:∀x∈l,0≤x∧x≤255):mD T.rightP (plT name) (cJ l)=true:=by
  have hlen:(cJ l).length=l.length:=by unfold cJ;simp
  refine fG.2 ⟨by omega,fun x hx=> ?_, ?_⟩
  · obtain ⟨i,hi,rfl⟩:=List.mem_map.1 hx
    have hi:=List.mem_range.1 hi
    unfold aaI
    rw [getElem!_pos l i hi]
    have:=hu _ (List.getElem_mem hi)
    exact aqB name (by omega) this.1 this.2
  · unfold KSort cJ
    rw [List.map_map]
    refine List.pairwise_map.2 (List.Pairwise.imp (fun {a b} h=> ?_) List.pairwise_lt_range)
    show ((a:Nat):Int)<((b:Nat):Int)
    omega
theorem aaH (l:List Int) (hl:l.length≤10):(cJ l).length≤100∧∀x∈cJ l,LnS x:=by
  refine ⟨by unfold cJ;simp;omega,fun x hx=> ?_⟩
  obtain ⟨i,hi,rfl⟩:=List.mem_map.1 hx
  refine ⟨by show 0≤1000;omega,by show 5≤1000;omega,fun c hc=> ?_⟩
  have hc:c∈[cV i,cV (l[i]!%4-1),cV (l[i]!/4%8-1),cV (l[i]!/32%3-1),cV (l[i]!/96-1)]:=hc
  simp only [List.mem_cons,List.not_mem_nil,or_false] at hc
  rcases hc with rfl|rfl|rfl|rfl|rfl<;>exact Nat.zero_le _
def plU :Tb:=plT ⟨#[98]⟩
def acA :Sc:=plS++[plU]
theorem vB :cC acA=0:=by kernel_rfl
theorem agM :rightC acA=0:=by
  unfold rightC
  rw [if_pos vB]
  show dD rightX [plT ⟨#[97]⟩,plU]=0
  rw [iK,rB,if_pos rfl,pY]
  exact rB _
theorem ajN {st:aO} {i0 i1 j0 j1:Nat} {A B C D:AObj} (a0:st i0=none) (a1:upd st i0 (some A) i1=none) (b0:upd (upd (upd st i0 (some A)) i0 none) i1 (some B) j0=none) (b1:upd (upd (upd (upd st i0 (some A)) i0 none) i1 (some B)) j0 (some C) j1=none):
    i1≠j1∧upd (upd (upd (upd (upd (upd st i0 (some A)) i0 none) i1 (some B)) j0 (some C)) j0 none) j1 (some D) i1=some B∧StSub st (upd (upd (upd (upd (upd (upd (upd (upd st i0 (some A)) i0 none) i1 (some B)) j0 (some C)) j0 none) j1 (some D)) i1 none) j1 none):=by
  have q1:∀{f:aO} {x y:Nat} {o:AObj},upd f x (some o) y=none→y≠x∧f y=none:=fun {f x y o} h=>by
    by_cases e:y=x
    · rw [e,aA] at h;cases h
    · exact ⟨e,by rwa [aF e] at h⟩
  have z0:∀{y:Nat},upd (upd st i0 (some A)) i0 none y=none→st y=none:=fun {y} h=>by
    by_cases e:y=i0
    · rw [e];exact a0
    · rwa [aF e,aF e] at h
  obtain ⟨n1,s1⟩:=q1 a1
  obtain ⟨n2,s2⟩:=q1 b0
  obtain ⟨n3,s3⟩:=q1 b1
  obtain ⟨n4,s4⟩:=q1 s3
  have t2:=z0 s2
  have t4:=z0 s4
  refine ⟨Ne.symm n4, ?_,fun j=> ?_⟩
  · rw [aF (Ne.symm n4),aF (Ne.symm n2),aF (Ne.symm n2),aA]
  · cases hj:st j with
    |none=>exact .inl rfl
    |some x=>
      right
      have w:∀{i:Nat},st i=none→j≠i:=fun {i} hi e=>by subst e;rw [hi] at hj;cases hj
      rw [aF (w t4),aF (w s1),aF (w t4),aF (w t2),aF (w t2),aF (w s1),aF (w a0),aF (w a0),hj]
section
variable {l m:List Int} (hl:l.length≤10) (hm:m.length≤10) (ul:∀x∈l,0≤x∧x≤255) (um:∀x∈m,0≤x∧x≤255)
include hl ul
theorem yA :CkB 100 plS [⟨cJ l⟩]∧mayC plS [⟨cJ l⟩]=true:=by
  refine ⟨plB ⟨by simp,fun d hd=> ?_⟩, ?_⟩
  · rw [List.mem_singleton.1 hd];exact aaH l hl
  · unfold mayC
    rw [jZ,Bool.and_eq_true]
    refine ⟨by rfl,cA.2 ⟨⟨iS jZ,rfl⟩,fun k hk=> ?_⟩⟩
    have hk:k<1:=hk
    obtain rfl:k=0:=by omega
    exact oW _ l hl ul
include hm um
theorem yD :CkB 100 acA ([⟨cJ l⟩]++[⟨cJ m⟩])∧mayC acA ([⟨cJ l⟩]++[⟨cJ m⟩])=true:=by
  refine ⟨⟨fun t ht=> ?_,by decide,fun t ht=> ?_,fun t ht=> ?_,⟨by simp,fun d hd=> ?_⟩,by decide⟩, ?_⟩
  · have ht:t∈[plT ⟨#[97]⟩,plU]:=ht
    simp only [List.mem_cons,List.not_mem_nil,or_false] at ht
    rcases ht with rfl|rfl<;>exact ⟨by decide,by decide,by decide,by decide,by decide⟩
  · have ht:t∈[plT ⟨#[97]⟩,plU]:=ht
    simp only [List.mem_cons,List.not_mem_nil,or_false] at ht
    rcases ht with rfl|rfl<;>decide
  · have ht:t∈[plT ⟨#[97]⟩,plU]:=ht
    simp only [List.mem_cons,List.not_mem_nil,or_false] at ht
    rcases ht with rfl|rfl<;>exact aiX _
  · have hd:d∈[Da.mk (cJ l),Da.mk (cJ m)]:=hd
    simp only [List.mem_cons,List.not_mem_nil,or_false] at hd
    rcases hd with rfl|rfl
    · exact aaH l hl
    · exact aaH m hm
  · unfold mayC
    rw [agM,Bool.and_eq_true]
    refine ⟨by rfl,cA.2 ⟨⟨vB,rfl⟩,fun k hk=> ?_⟩⟩
    have hk:k<2:=hk
    have:k=0∨k=1:=by omega
    rcases this with rfl|rfl
    · exact oW _ l hl ul
    · exact oW _ m hm um
theorem akX :whyC plS [⟨cJ l⟩]=0∨whyC acA ([⟨cJ l⟩]++[⟨cJ m⟩])=whyC plS [⟨cJ l⟩]:=by
  have h1:=(yA hl ul).2
  have h2:=(yD hl hm ul um).2
  have e1:whyC plS [⟨cJ l⟩]=ckW bB exR plS [⟨cJ l⟩]:=by unfold whyC;rw [if_pos h1]
  have e2:whyC acA ([⟨cJ l⟩]++[⟨cJ m⟩])=ckW bB exR acA ([⟨cJ l⟩]++[⟨cJ m⟩]):=by unfold whyC;rw [if_pos h2]
  rw [e1,e2]
  by_cases h:ckW bB exR plS [⟨cJ l⟩]=0
  · exact .inl h
  · right
    refine amR (t:=plT ⟨#[97]⟩) rfl ⟨[plU],rfl⟩ rfl (fun f hf=> ?_) h
    have hf:f∈[Fr.mk 4 0 0]:=hf
    rw [List.mem_singleton.1 hf]
    rfl
theorem abU :PF Tryz.prog 5 [.seq (l.map U8), .seq (m.map U8)] (PV.val (Value.bool (true))):=by
  have hA:=eR
  have hr1:=sC l hl ul
  have hr2:=sC m hm um
  have hw1:=gQ (yA hl ul).1
  have hw2:=gQ (yD hl hm ul um).1
  have hlaw:=akX hl hm ul um
  generalize whyC plS [⟨cJ l⟩]=E at*
  generalize whyC acA ([⟨cJ l⟩]++[⟨cJ m⟩])=F at*
  have hw3:∀{st:aO} {i j:Nat},i≠j→st i=some (.arr 43 ((plS++[plU]).map Tb.cells))→st j=some (.arr 108 (([⟨cJ l⟩]++[⟨cJ m⟩]:List Da).map Da.cells))→PC Tryz.prog 13 [.agg [.vec i 6 0 (plS.length+[plU].length)], .agg [.vec j 1 0 ([Da.mk (cJ l)].length+[Da.mk (cJ m)].length)]] st fun r S=>r=(PV.val (Value.int .i64 (F)))∧S=upd (upd st i none) j none:=fun {st i j} hne h1 h2=>
    PC.freezeZ h1 atG (.cons (.agg (.cons (lF rfl) .nil)) (FzL.refl _)) (PC.freezeZ ((aF (Ne.symm hne)).trans h2) zB (.cons .refl (.cons (.agg (.cons (lF rfl) .nil)) .nil)) (hw2 _))
  have hrow:(plS.map Tb.cells)[0]?=some (plT ⟨#[97]⟩).cells:=rfl
  have hb1:=ajL
  have hb2:=akF
  refine aK aG Tryz.func5 (by kernel_rfl) rfl rfl rfl rfl (fun st=> ?_)
  focus ((try (apply wO pk;exact rfl));(repeat' (first|(apply wDO pk [0,1,2,4,5,3,6,7,8] [3,6] [] [5,6] [];exact rfl;exact rfl;kernel_rfl;exact rfl;exact rfl)|(show All _;constructor)|(show Imp _ _;constructor)|(show ImpX _ _ _ _;constructor)|(apply wC pk;(iterate 2 exact rfl))|(apply wE pk;(iterate 2 exact rfl))|(apply wX pk;exact rfl)|(apply wN pk;exact rfl)|(apply wD pk [] [];kernel_rfl;exact rfl;exact rfl)|(apply aB;simp only [zqt,zqf])|(refine aC rfl (fun h=> ?_) (fun h=> ?_)<;>(try simp at h)<;>try (exfalso;omega))|(refine aD ?_;first|(refine ⟨_,_,_,rfl,Wk.refl _,StSub.refl _, ?_,rfl⟩;(first|rfl))|(refine ⟨_,_,_,rfl,Wk.refl _,aH (by assumption), ?_,rfl⟩;(first|rfl))|(refine ⟨_,_,_,rfl,Wk.soft _,StSub.refl _, ?_,rfl⟩;(first|rfl))|(refine ⟨_,_,_,rfl,Wk.soft _,aH (by assumption), ?_,rfl⟩;(first|rfl))|(refine ⟨_,_,_,rfl,Wk.refl _,StSub.refl _, ?_,rfl⟩)|(refine ⟨_,_,_,rfl,Wk.soft _,aH (by assumption), ?_,rfl⟩))|(apply aL;(iterate 3 exact rfl);(intro _;(first|apply hA|apply uD|apply hr1|apply hr2|apply hw1)<;>first|assumption|omega);rotate_left;(iterate 2 exact rfl))|(apply bC pk;(iterate 6 exact rfl);rotate_left;exact rfl;(intro hw;exact rfl);(intro hw;apply hrow<;>omega);(intro _;exact rfl);exact rfl)|((apply ap0 pk (f:=Tb.cells) plS 136;(iterate 10 exact rfl);exact fun _=>rfl;exact fun _=>rfl;exact hb1;decide;decide;exact rfl;intro i0 hi0))|((apply apV pk (f:=Tb.cells) (xs:=plS) [plU] 136;(iterate 9 exact rfl);exact aA _ _ _;exact rfl;exact fun _=>rfl;exact fun _=>rfl;exact hb1;decide;decide;exact rfl;intro i1 hi1))|((apply ap0 pk (f:=Da.cells) [Da.mk (cJ l)] 24;(iterate 10 exact rfl);exact fun _=>rfl;exact fun _=>rfl;exact hb2;(show 1*24≤_;omega);(show 1<_;omega);exact rfl;intro j0 hj0))|((apply apV pk (f:=Da.cells) (xs:=[Da.mk (cJ l)]) [Da.mk (cJ m)] 24;(iterate 9 exact rfl);exact aA _ _ _;exact rfl;exact fun _=>rfl;exact fun _=>rfl;exact hb2;(show (1+1)*24≤_;omega);(show 1+1<_;omega);exact rfl;intro j1 hj1))|(intros;(try simp only [zql]);omega)|((exfalso;simp at*;omega)))))
  have a0:st i0=none:=hi0
  obtain ⟨hne,hS,hsub⟩:=ajN (st:=st) (i0:=i0) (i1:=i1) (j0:=j0) (j1:=j1) (A:= .arr 43 (plS.map Tb.cells)) (B:= .arr 43 ((plS++[plU]).map Tb.cells)) (C:= .arr 108 ([Da.mk (cJ l)].map Da.cells)) (D:= .arr 108 (([Da.mk (cJ l)]++[Da.mk (cJ m)]).map Da.cells)) a0 hi1 hj0 hj1
  have hfin:(decide (E=0)||decide (F=E))=true:=by rcases hlaw with h|h<;>simp [h]
  (try (apply wO pk;exact rfl));(repeat' (first|((refine aD ?_;exact ⟨_,_,_,rfl,Wk.refl _,hsub,(by first|(rw [hfin];done)|(simp only [Bool.true_and];rw [hfin];done)|(simp;simpa using hlaw)),rfl⟩))|(show All _;constructor)|(show Imp _ _;constructor)|(show ImpX _ _ _ _;constructor)|(apply wC pk;(iterate 2 exact rfl))|(apply wE pk;(iterate 2 exact rfl))|(apply wX pk;exact rfl)|(apply wN pk;exact rfl)|(apply wDx pk;exact rfl;kernel_rfl;exact rfl;exact rfl)|(apply aB;simp only [zqt,zqf])|(refine aC rfl (fun h=> ?_) (fun h=> ?_)<;>(try simp at h)<;>try (exfalso;omega))|((try refine aD ?_);refine ⟨_,_,_,rfl,Wk.refl _,StSub.refl _, ?_⟩)|(apply ncA;(iterate 3 exact rfl);rotate_left;exact rfl;exact rfl)|(apply ldR pk;exact rfl;exact rfl;rotate_left;exact rfl;(focus ((repeat (first|exact aA _ _ _|assumption|refine (aF (by assumption)).trans ?_));done));exact rfl;exact rfl)|(apply stR pk;exact rfl;exact rfl;(focus ((repeat (first|exact aA _ _ _|assumption|refine (aF (by assumption)).trans ?_));done));exact rfl;exact rfl)|(apply cT;exact rfl;exact rfl;(first|(apply (hw3 hne hS (aA _ _ _))<;>first|exact aA _ _ _|assumption|omega|(simp only [zqs];omega)|(focus ((repeat (first|exact aA _ _ _|assumption|refine (aF (by assumption)).trans ?_));done))));(iterate 3 exact rfl);intro _ st' hR;(first|subst hR|obtain ⟨rfl,rfl⟩:=hR))|(intros;(try simp only [zql]);omega)))
end
theorem afK {l m:List Int} (ul:∀x∈l,0≤x∧x≤255) (um:∀x∈m,0≤x∧x≤255):PF Tryz.prog 5 [.seq (l.map U8), .seq (m.map U8)] (PV.val (Value.bool (true))):=by
  by_cases h:l.length≤10∧m.length≤10
  · exact abU h.1 h.2 ul um
  · have hA:=eR
    have l1:(l.map U8).length=l.length:=zql _
    have l2:(m.map U8).length=m.length:=zql _
    refine aK aG Tryz.func5 (by kernel_rfl) rfl rfl rfl rfl (fun st=> ?_)
    (try (apply wO pk;exact rfl));(repeat' (first|(show All _;constructor)|(show Imp _ _;constructor)|(show ImpX _ _ _ _;constructor)|(apply wC pk;(iterate 2 exact rfl))|(apply wE pk;(iterate 2 exact rfl))|(apply wX pk;exact rfl)|(apply wN pk;exact rfl)|(apply wD pk [] [];kernel_rfl;exact rfl;exact rfl)|(apply aB;simp only [zqt,zqf])|(refine aC rfl (fun h=> ?_) (fun h=> ?_)<;>(try simp at h)<;>try (exfalso;omega))|(refine aD ?_;refine ⟨_,_,_,rfl,Wk.refl _,StSub.refl _, ?_,rfl⟩;try rfl)|(apply aL;(iterate 3 exact rfl);(intro _;apply hA<;>first|assumption|omega);rotate_left;(iterate 2 exact rfl))|(intros;(try simp only [zql]);omega)|((exfalso;simp at*;omega))))
end Go.Proofs.YtcglimangneafaaGreatDoor
