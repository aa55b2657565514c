import Derived.Test.YtppdefkgmegipaaGreatDoorClAl
set_option linter.unusedSimpArgs false
set_option linter.unusedVariables false
namespace Go.Proofs.YtppdefkgmegipaaGreatDoor
open Go Go.Abs
section
attribute [local irreducible] Ev PWp
set_option maxRecDepth 10000
set_option maxHeartbeats 4000000
theorem acY (b:Bs) (j:Jn) (fa:FuncId) (ca:List PV):PF Tryz.prog 77 [.agg (bsC b), .fn fa ca, .agg j.cells] (.fn 125 [.rp [.fn fa ca], .rp (bsC b), .rp j.cells]):=by
 refine pF Tryz.func77 rfl (λst=> ?_)
 (repeat' first|(show Cn (.r _ _ _);refine .any ⟨_,_,_,rfl,zwr _,zsr _, ?_,rfl⟩;try rfl)|apply wZ;rfl|show Cn _;constructor|exact rfl|apply KR.mk;kernel_rfl|apply aQ 3;rfl;rfl|apply aQ 4;rfl;rfl|apply aQ 5;rfl;rfl|omega|intros;omega|simp only [zql];omega|intros;simp only [zql];omega|intros;simp only;omega|intro h;omega|intro h;simp at h;done|intro h;simp at h;omega|(intro h;simp at h)|intro h)
theorem amI {α:Type} {p xs:List α} {x:α} (h:(p++[x])<+:xs):x∈xs:=by
 obtain ⟨t,rfl⟩:=h;simp
theorem acU {b:Bs} {tb:Int} {l r:Nat} {fa:FuncId} {ca:List PV} {xs ys:List Wd} (ha:xY fa ca xs) (hs:xY 124 [.rp (bsC b), .rp [(vi (tb))]] ys)
  (hx:∀x∈xs,l<x.row.length/\x.row.length<1000000/\x.by_.length<1000000000) (hy:∀y∈ys,r<y.row.length/\y.row.length<1000000/\y.by_.length<1000000000):
  xY 125 [.rp [.fn fa ca], .rp (bsC b), .rp (Jn.mk tb (l:Nat) (r:Nat)).cells] (dS l r xs ys):=by
 intro idl st J hO h0 hd
 show PC Tryz.prog 125 [.yld idl, .rp [.fn fa ca], .rp (bsC b), .rp (Jn.mk tb (l:Nat) (r:Nat)).cells] st _
 have hsc:=zQ b tb
 refine pC Tryz.func125 rfl ?_
 focus ((repeat' first|apply wDx pk;rfl;kernel_rfl;rfl;rfl|(show Cn (.e _ _ _ _);refine .any ?_;(first|(refine ⟨_,_,_,rfl,zwr _,zsr _, ?_,rfl⟩;(first|rfl))|(refine ⟨_,_,_,rfl,zwr _,aB ‹_›, ?_,rfl⟩;(first|rfl))|(refine ⟨_,_,_,rfl,zwf _,zsr _, ?_,rfl⟩;(first|rfl))|(refine ⟨_,_,_,rfl,zwf _,aB ‹_›, ?_,rfl⟩;(first|rfl))|(refine ⟨_,_,_,rfl,zwr _,zsr _, ?_,rfl⟩)|(refine ⟨_,_,_,rfl,zwf _,aB ‹_›, ?_,rfl⟩)))|apply wZ;rfl|show Cn _;constructor|exact rfl|apply KR.mk;kernel_rfl|apply ncA;rfl;rfl;rfl;rotate_left;rfl;rfl|apply ldR pk;rfl;rfl;rotate_left;rfl;(focus ((repeat (first|exact aA _ _ _|assumption|refine (aC ‹_›).trans ?_));done));rfl;rfl|apply stR pk;rfl;rfl;(focus ((repeat (first|exact aA _ _ _|assumption|refine (aC ‹_›).trans ?_));done));rfl;rfl|omega|intros;omega|simp only [zql];omega|intros;simp only [zql];omega|intros;simp only;omega|intro h;omega|intro h;simp at h;done|intro h;simp at h;omega|(intro h;simp at h)|intro h))
 refine lF 4 rfl rfl ?_
 refine pJ [(2, .rp (bsC b)),(3, .rp (Jn.mk tb (l:Nat) (r:Nat)).cells),(4, .rp [.yld idl])] rfl rfl ⟨rfl,rfl,rfl,trivial⟩ (λidla S=>J (dS l r xs ys) (λ_=>False) (upd S idla none)) ?_ ?_
 ·intro idla hla
  have hla:st idla=none:=hla
  generalize hlp:AObj.loop _ _ _ _ _ _=lp
  have:=ha (idl:=idla) (st:=upd st idla (some lp)) (J:=λp E S=>J (dS l r p ys) (λj=>E j\/j=idla) S/\S idla=some lp/\¬E idla) ?_ ?_ ?_
  ·refine ⟨this.1,λw g vs h1 h2=>(this.2 w g vs h1 h2).mono ?_⟩
   rintro e w' ⟨v,q,S,g',h3,hJ,h4⟩
   exact ⟨v,q,S,g',h3,⟨hJ.2.1,hO.del hJ.1 (.inr rfl) λj=>⟨λh=>h.elim,λh=>h.1.elim id h.2⟩⟩,h4⟩
  ·refine ⟨fun {p E S e o} h he=> ?_,fun {p E S e o} h he=> ?_,fun {p E F S e} h he hF=> ?_,fun {p E S e} h he=>hO.ex h.1 (.inl he)⟩
   ·have hne:e≠idla:=λq=>by rw [q,h.2.1] at he;cases he
    exact ⟨reE (hO.new h.1 he) λj=>or_right_comm,by rw [aC (Ne.symm hne)];exact h.2.1,λq=>q.elim h.2.2 λq=>hne q.symm⟩
   ·have hne:e≠idla:=λq=>h.2.2 (q▸he)
    exact ⟨hO.set h.1 (.inl he),by rw [aC (Ne.symm hne)];exact h.2.1,h.2.2⟩
   ·have hne:e≠idla:=λq=>h.2.2 (q▸he)
    exact ⟨hO.del h.1 (.inl he) λj=>⟨λq=>q.elim (λq=>⟨.inl ((hF j).1 q).1,((hF j).1 q).2⟩) λq=>⟨.inr q,λw=>hne (w▸q)⟩,λq=>q.1.elim (λw=> .inl ((hF j).2 ⟨w,q.2⟩)) .inr⟩,by rw [aC (Ne.symm hne)];exact h.2.1,λq=>h.2.2 ((hF _).1 q).1⟩
  ·exact ⟨hO.new h0 hla,aA _ _ _,λq=>q⟩
  ·rintro p x E S hp ⟨hJ,hSl,hE⟩
   obtain ⟨x1,x2,x3⟩:=hx x (amI hp)
   rw [<-hlp] at hSl
   refine alU (R:=λS'=>(J (dS l r (p++[x]) ys) (λj=>E j\/j=idla) S'/\S' idla=some lp/\¬E idla)/\∀e,E e->S' e=S e) hSl (show 9<50 by decide) ?_
   show PWp _ _ _ (((((St.nilR idla 50 S).pv 2 (.rp (bsC b))).pv 3 (.rp (Jn.mk tb (l:Nat) (r:Nat)).cells)).pv 4 (.rp [.yld idl])).pv 9 (.agg x.cells))
   (repeat' first|(show Cn (.r _ _ _);refine .any ⟨_,_,_,rfl,zwr _,zsr _, ?_,rfl⟩;try rfl)|apply wZ;rfl|show Cn _;constructor|exact rfl|apply KR.mk;kernel_rfl|omega|intros;omega|simp only [zql];omega|intros;simp only [zql];omega|intros;simp only;omega|intro h;omega|intro h;simp at h;done|intro h;simp at h;omega|(intro h;simp at h)|intro h)
   refine ⟨rfl,hSl, ?_⟩
   focus ((repeat' first|apply wDx pk;rfl;kernel_rfl;rfl;rfl|(apply Cn.cf;focus ((apply hsc<;>(first|assumption|omega));done))|(apply cV;focus ((apply hsc<;>(first|assumption|omega));done))|(show Cn (.e _ _ _ _);refine .any ?_;(first|(refine ⟨_,_,_,rfl,zwr _,zsr _, ?_,rfl⟩;(first|rfl))|(refine ⟨_,_,_,rfl,zwr _,aB ‹_›, ?_,rfl⟩;(first|rfl))|(refine ⟨_,_,_,rfl,zwf _,zsr _, ?_,rfl⟩;(first|rfl))|(refine ⟨_,_,_,rfl,zwf _,aB ‹_›, ?_,rfl⟩;(first|rfl))|(refine ⟨_,_,_,rfl,zwr _,zsr _, ?_,rfl⟩)|(refine ⟨_,_,_,rfl,zwf _,aB ‹_›, ?_,rfl⟩)))|apply wZ;rfl|show Cn _;constructor|exact rfl|apply KR.mk;kernel_rfl|apply ncA;rfl;rfl;rfl;rotate_left;rfl;rfl|apply ldR pk;rfl;rfl;rotate_left;rfl;(focus ((repeat (first|exact aA _ _ _|assumption|refine (aC ‹_›).trans ?_));done));rfl;rfl|apply stR pk;rfl;rfl;(focus ((repeat (first|exact aA _ _ _|assumption|refine (aC ‹_›).trans ?_));done));rfl;rfl|apply wY;rfl|omega|intros;omega|simp only [zql];omega|intros;simp only [zql];omega|intros;simp only;omega|intro h;omega|intro h;simp at h;done|intro h;simp at h;omega|(intro h;simp at h)|intro h))
   refine lF 5 rfl rfl ?_
   rw [hlp] at hSl
   generalize hbz:AObj.loop _ _ _ _ _ _=bz
   have hJ1:=hO.set (o:=bz) hJ (.inr rfl)
   have hne:∀e,E e->e≠idla:=λe he q=>hE (q▸he)
   refine aiP [(3, .rp (Jn.mk tb (l:Nat) (r:Nat)).cells),(4, .rp [.yld idl]),(5, .rp x.cells)] rfl rfl (by rw [<-hbz];exact aA _ _ _) ⟨rfl,rfl,rfl,trivial⟩ (λidls S'=>J (dS l r (p++[x]) ys) (λj=>E j\/j=idla) (upd S' idls none)/\upd S' idls none idla=some bz/\∀e,E e->upd S' idls none e=S e) ?_ ?_
   ·intro idls hls
    have hls:upd S idla (some bz) idls=none:=hls
    have n1:idls≠idla:=λq=>by rw [q,aA] at hls;cases hls
    have n2:¬E idls:=λq=>by rw [aC n1] at hls;exact hO.ex hJ (.inl q) hls
    generalize hlq:AObj.loop _ _ _ _ _ _=lq
    have:=hs (idl:=idls) (st:=upd (upd S idla (some bz)) idls (some lq)) (J:=λq F T=>J (dS l r p ys++q.filterMap (fK l r x)) (λi=>(E i\/i=idla)\/(F i\/i=idls)) T/\T idla=some bz/\T idls=some lq/\(∀i,F i->i≠idls/\i≠idla/\¬E i)/\∀e,E e->T e=S e) ?_ ?_ ?_
    ·refine ⟨this.1,λw g vs h1 h2=>(this.2 w g vs h1 h2).mono ?_⟩
     rintro e w' ⟨v,q,T,g',h3,⟨g1,g2,g3,g4,g5⟩,h4⟩
     refine ⟨v,q,T,g',h3,⟨g3, ?_,by rw [aC (Ne.symm n1)];exact g2,λe he=>(aC (d:=idls) (t:=e) λq=>n2 (q▸he)).trans (g5 e he)⟩,h4⟩
     rw [asT]
     exact hO.del g1 (.inr (.inr rfl)) λi=>⟨λq=>⟨.inl q,λw=>by subst w;exact q.elim n2 n1⟩,λq=>q.1.elim id λw=>w.elim (λw=>w.elim) λw=>absurd w q.2⟩
    ·refine ⟨fun {q F T e o} h he=> ?_,fun {q F T e o} h he=> ?_,fun {q F G T e} h he hF=> ?_,fun {q F T e} h he=>hO.ex h.1 (.inr (.inl he))⟩
     ·obtain ⟨g1,g2,g3,g4,g5⟩:=h
      have m1:e≠idla:=λq=>by rw [q,g2] at he;cases he
      have m2:e≠idls:=λq=>by rw [q,g3] at he;cases he
      have m3:¬E e:=λq=>hO.ex g1 (.inl (.inl q)) he
      refine ⟨reE (hO.new g1 he) λi=> ?_,by rw [aC (Ne.symm m1)];exact g2,by rw [aC (Ne.symm m2)];exact g3,λi hi=> ?_,λi hi=>(aC (d:=e) (t:=i) λq=>m3 (q▸hi)).trans (g5 i hi)⟩
      ·rw [or_assoc];exact or_congr_right or_right_comm
      ·rcases hi with hi|rfl
       ·exact g4 i hi
       ·exact ⟨m2,m1,m3⟩
     ·obtain ⟨g1,g2,g3,g4,g5⟩:=h
      obtain ⟨m2,m1,m3⟩:=g4 e he
      exact ⟨hO.set g1 (.inr (.inl he)),by rw [aC (Ne.symm m1)];exact g2,by rw [aC (Ne.symm m2)];exact g3,g4,λi hi=>(aC (d:=e) (t:=i) λq=>m3 (q▸hi)).trans (g5 i hi)⟩
     ·obtain ⟨g1,g2,g3,g4,g5⟩:=h
      obtain ⟨m2,m1,m3⟩:=g4 e he
      refine ⟨hO.del g1 (.inr (.inl he)) λi=>⟨λq=> ?_,λq=> ?_⟩,by rw [aC (Ne.symm m1)];exact g2,by rw [aC (Ne.symm m2)];exact g3,λi hi=>g4 i ((hF i).1 hi).1,λi hi=>(aC (d:=e) (t:=i) λq=>m3 (q▸hi)).trans (g5 i hi)⟩
      ·rcases q with (q|rfl)|q|rfl
       ·exact ⟨.inl (.inl q),λw=>m3 (w▸q)⟩
       ·exact ⟨.inl (.inr rfl),Ne.symm m1⟩
       ·exact ⟨.inr (.inl ((hF i).1 q).1),((hF i).1 q).2⟩
       ·exact ⟨.inr (.inr rfl),Ne.symm m2⟩
      ·rcases q with ⟨q|q|q,w⟩
       ·exact .inl q
       ·exact .inr (.inl ((hF i).2 ⟨q,w⟩))
       ·exact .inr (.inr q)
    ·have hJ2:J (dS l r p ys++([]:List Wd).filterMap (fK l r x)) (λj=>E j\/j=idla) (upd S idla (some bz)):=by simpa using hJ1
     refine ⟨reE (hO.new hJ2 hls) λi=>⟨λq=>q.elim .inl λq=> .inr (.inr q),λq=>q.elim .inl λq=>q.elim (λq=>q.elim) .inr⟩,by rw [aC (Ne.symm n1),aA],aA _ _ _,λi hi=>hi.elim,λe he=>(aC (d:=idls) (t:=e) λq=>n2 (q▸he)).trans (aC (hne e he))⟩
    ·rintro q y F T hq ⟨g1,g2,g3,g4,g5⟩
     obtain ⟨y1,y2,y3⟩:=hy y (amI hq)
     have hqs:∀z,fK l r x y=z->(q++[y]).filterMap (fK l r x)=q.filterMap (fK l r x)++z.toList:=λz e=>by
      rw [List.filterMap_append];simp only [List.filterMap_cons,List.filterMap_nil,e];cases z<;>rfl
     have hc:=yJ x.row y.row (by omega)
     have hu:=pG x.by_ y.by_ (by omega)
     have hv:=kY x.row[l] y.row[r]
     rw [<-hlq] at g3
     refine alU (R:=λS'=>(J (dS l r p ys++(q++[y]).filterMap (fK l r x)) (λi=>(E i\/i=idla)\/(F i\/i=idls)) S'/\S' idla=some bz/\S' idls=some lq/\(∀i,F i->i≠idls/\i≠idla/\¬E i)/\∀e,E e->S' e=S e)/\∀e,F e->S' e=T e) g3 (show 14<50 by decide) ?_
     show PWp _ _ _ (((((St.nilR idls 50 T).pv 3 (.rp (Jn.mk tb (l:Nat) (r:Nat)).cells)).pv 4 (.rp [.yld idl])).pv 5 (.rp x.cells)).pv 14 (.agg y.cells))
     (repeat' first|(show Cn (.r _ _ _);refine .any ⟨_,_,_,rfl,zwr _,zsr _, ?_,rfl⟩;try rfl)|apply wZ;rfl|show Cn _;constructor|exact rfl|apply KR.mk;kernel_rfl|omega|intros;omega|simp only [zql];omega|intros;simp only [zql];omega|intros;simp only;omega|intro h;omega|intro h;simp at h;done|intro h;simp at h;omega|(intro h;simp at h)|intro h)
     refine ⟨rfl,g3, ?_⟩
     rw [hlq] at g3
     by_cases hk:x.row[l].kind=0
     ·have e:fK l r x y=none:=by unfold fK;rw [getElem!_pos x.row l x1,zp (.inl hk)]
      (repeat' first|(apply cW;focus (intro _;(apply (show PF Tryz.prog 92 [_,_] (vb (true)) from by rename_i hh;exfalso;simp [gw] at hh;omega)<;>(first|assumption|omega));done))|(show Cn (.e _ _ _ _);refine .any ?_;(first|(refine ⟨_,_,_,rfl,zwr _,zsr _, ?_,rfl⟩;(first|rfl))|(refine ⟨_,_,_,rfl,zwr _,aB ‹_›, ?_,rfl⟩;(first|rfl))|(refine ⟨_,_,_,rfl,zwf _,zsr _, ?_,rfl⟩;(first|rfl))|(refine ⟨_,_,_,rfl,zwf _,aB ‹_›, ?_,rfl⟩;(first|rfl))|(refine ⟨_,_,_,rfl,zwr _,zsr _, ?_,rfl⟩)|(refine ⟨_,_,_,rfl,zwf _,aB ‹_›, ?_,rfl⟩)))|(show Cn (.r _ _ _);refine .any ?_;(first|(refine ⟨_,_,_,rfl,zwr _,zsr _, ?_,rfl⟩;(first|rfl))|(refine ⟨_,_,_,rfl,zwr _,aB ‹_›, ?_,rfl⟩;(first|rfl))|(refine ⟨_,_,_,rfl,zwf _,zsr _, ?_,rfl⟩;(first|rfl))|(refine ⟨_,_,_,rfl,zwf _,aB ‹_›, ?_,rfl⟩;(first|rfl))|(refine ⟨_,_,_,rfl,zwr _,zsr _, ?_,rfl⟩)|(refine ⟨_,_,_,rfl,zwf _,aB ‹_›, ?_,rfl⟩)))|apply wZ;rfl|show Cn _;constructor|exact rfl|apply KR.mk;kernel_rfl|apply wY;rfl|apply wI;rfl|apply gE;omega|apply gE;show 0<_;omega|apply gE;show 1<_;omega|omega|intros;omega|simp only [zql];omega|intros;simp only [zql];omega|intros;simp only;omega|intro h;omega|intro h;simp at h;done|intro h;simp at h;omega|(intro h;simp at h)|intro h)
      rw [hqs _ e]
      subst hlq
      simp only [Option.toList_none,List.append_nil]
      exact ⟨trivial,_,zsr _,aA _ _ _,⟨hO.set (hO.set g1 (.inr (.inr rfl))) (.inr (.inr rfl)),(aC (Ne.symm n1)).trans ((aC (Ne.symm n1)).trans g2),aA _ _ _,g4,λe he=>(aC (d:=idls) (t:=e) λq=>n2 (q▸he)).trans ((aC (d:=idls) (t:=e) λq=>n2 (q▸he)).trans (g5 e he))⟩,λe he=>(aC (g4 e he).1).trans (aC (g4 e he).1)⟩
     by_cases hsm:eM x.row[l] y.row[r]=false
     ·have e:fK l r x y=none:=by unfold fK;rw [getElem!_pos x.row l x1,getElem!_pos y.row r y1,zp (.inr hsm)]
      rw [hsm] at hv
      (repeat' first|(show Cn (.e _ _ _ _);refine .any ?_;(first|(refine ⟨_,_,_,rfl,zwr _,zsr _, ?_,rfl⟩;(first|rfl))|(refine ⟨_,_,_,rfl,zwr _,aB ‹_›, ?_,rfl⟩;(first|rfl))|(refine ⟨_,_,_,rfl,zwf _,zsr _, ?_,rfl⟩;(first|rfl))|(refine ⟨_,_,_,rfl,zwf _,aB ‹_›, ?_,rfl⟩;(first|rfl))|(refine ⟨_,_,_,rfl,zwr _,zsr _, ?_,rfl⟩)|(refine ⟨_,_,_,rfl,zwf _,aB ‹_›, ?_,rfl⟩)))|(show Cn (.r _ _ _);refine .any ?_;(first|(refine ⟨_,_,_,rfl,zwr _,zsr _, ?_,rfl⟩;(first|rfl))|(refine ⟨_,_,_,rfl,zwr _,aB ‹_›, ?_,rfl⟩;(first|rfl))|(refine ⟨_,_,_,rfl,zwf _,zsr _, ?_,rfl⟩;(first|rfl))|(refine ⟨_,_,_,rfl,zwf _,aB ‹_›, ?_,rfl⟩;(first|rfl))|(refine ⟨_,_,_,rfl,zwr _,zsr _, ?_,rfl⟩)|(refine ⟨_,_,_,rfl,zwf _,aB ‹_›, ?_,rfl⟩)))|apply wZ;rfl|show Cn _;constructor|exact rfl|apply KR.mk;kernel_rfl|(apply hv<;>(first|assumption|omega))|apply wY;rfl|apply wI;rfl|apply gE;omega|apply gE;show 0<_;omega|apply gE;show 1<_;omega|omega|intros;omega|simp only [zql];omega|intros;simp only [zql];omega|intros;simp only;omega|intro h;omega|intro h;simp at h;done|intro h;simp at h;omega|(intro h;simp at h)|intro h)
      rw [hqs _ e]
      subst hlq
      simp only [Option.toList_none,List.append_nil]
      exact ⟨trivial,_,zsr _,aA _ _ _,⟨hO.set (hO.set g1 (.inr (.inr rfl))) (.inr (.inr rfl)),(aC (Ne.symm n1)).trans ((aC (Ne.symm n1)).trans g2),aA _ _ _,g4,λe he=>(aC (d:=idls) (t:=e) λq=>n2 (q▸he)).trans ((aC (d:=idls) (t:=e) λq=>n2 (q▸he)).trans (g5 e he))⟩,λe he=>(aC (g4 e he).1).trans (aC (g4 e he).1)⟩
     have hsm:eM x.row[l] y.row[r]=true:=by simpa using hsm
     have e:fK l r x y=some ⟨x.row++y.row,jS x.by_ y.by_⟩:=by unfold fK;rw [getElem!_pos x.row l x1,getElem!_pos y.row r y1,zn (λq=>by rcases q with q|q;exact hk q;rw [hsm] at q;cases q)]
     rw [hsm] at hv
     (repeat' first|show PWp _ (.region _ #[_,_,_,_,_,_,_,_,_,_,_,_,_,_,_] _) _ _;apply wD pk [13] [];kernel_rfl;rfl;rfl|(show Cn (.e _ _ _ _);refine .any ?_;(first|(refine ⟨_,_,_,rfl,zwr _,zsr _, ?_,rfl⟩;(first|rfl))|(refine ⟨_,_,_,rfl,zwr _,aB ‹_›, ?_,rfl⟩;(first|rfl))|(refine ⟨_,_,_,rfl,zwf _,zsr _, ?_,rfl⟩;(first|rfl))|(refine ⟨_,_,_,rfl,zwf _,aB ‹_›, ?_,rfl⟩;(first|rfl))|(refine ⟨_,_,_,rfl,zwr _,zsr _, ?_,rfl⟩)|(refine ⟨_,_,_,rfl,zwf _,aB ‹_›, ?_,rfl⟩)))|(show Cn (.r _ _ _);refine .any ?_;(first|(refine ⟨_,_,_,rfl,zwr _,zsr _, ?_,rfl⟩;(first|rfl))|(refine ⟨_,_,_,rfl,zwr _,aB ‹_›, ?_,rfl⟩;(first|rfl))|(refine ⟨_,_,_,rfl,zwf _,zsr _, ?_,rfl⟩;(first|rfl))|(refine ⟨_,_,_,rfl,zwf _,aB ‹_›, ?_,rfl⟩;(first|rfl))|(refine ⟨_,_,_,rfl,zwr _,zsr _, ?_,rfl⟩)|(refine ⟨_,_,_,rfl,zwf _,aB ‹_›, ?_,rfl⟩)))|apply wZ;rfl|show Cn _;constructor|exact rfl|apply KR.mk;kernel_rfl|((first|apply hv|apply hc|apply hu)<;>(first|assumption|omega))|((apply ahC;rfl;rfl;exact hd _ ⟨x.row++y.row,jS x.by_ y.by_⟩ _ _ (awH hp hq e) (hO.set g1 (.inr (.inr rfl)));rfl;rfl;rfl;rintro _ U ⟨rfl,hU,hV⟩))|apply wY;rfl|apply wI;rfl|apply gE;omega|apply gE;show 0<_;omega|apply gE;show 1<_;omega|omega|intros;omega|simp only [zql];omega|intros;simp only [zql];omega|intros;simp only;omega|intro h;omega|intro h;simp at h;done|intro h;simp at h;omega|(intro h;simp at h)|intro h)
     rw [hqs _ e]
     subst hlq
     have hi2:U idls=_:=(hV idls (.inr (.inr rfl))).trans (aA _ _ _)
     exact ⟨rfl,_,zsr _,hi2,⟨by rw [<-List.append_assoc];exact hO.set hU (.inr (.inr rfl)),by rw [aC (Ne.symm n1)];exact (hV idla (.inl (.inr rfl))).trans ((aC (Ne.symm n1)).trans g2),aA _ _ _,g4,λe he=>(aC (d:=idls) (t:=e) λq=>n2 (q▸he)).trans ((hV e (.inl (.inl he))).trans ((aC (d:=idls) (t:=e) λq=>n2 (q▸he)).trans (g5 e he)))⟩,λe he=>(aC (g4 e he).1).trans ((hV e (.inr (.inl he))).trans (aC (g4 e he).1))⟩
   ·rintro idls S' _ ⟨k1,k2,k3⟩
    (repeat' first|(show Cn (.e _ _ _ _);refine .any ?_;(first|(refine ⟨_,_,_,rfl,zwr _,zsr _, ?_,rfl⟩;(first|rfl))|(refine ⟨_,_,_,rfl,zwr _,aB ‹_›, ?_,rfl⟩;(first|rfl))|(refine ⟨_,_,_,rfl,zwf _,zsr _, ?_,rfl⟩;(first|rfl))|(refine ⟨_,_,_,rfl,zwf _,aB ‹_›, ?_,rfl⟩;(first|rfl))|(refine ⟨_,_,_,rfl,zwr _,zsr _, ?_,rfl⟩)|(refine ⟨_,_,_,rfl,zwf _,aB ‹_›, ?_,rfl⟩)))|(show Cn (.r _ _ _);refine .any ?_;(first|(refine ⟨_,_,_,rfl,zwr _,zsr _, ?_,rfl⟩;(first|rfl))|(refine ⟨_,_,_,rfl,zwr _,aB ‹_›, ?_,rfl⟩;(first|rfl))|(refine ⟨_,_,_,rfl,zwf _,zsr _, ?_,rfl⟩;(first|rfl))|(refine ⟨_,_,_,rfl,zwf _,aB ‹_›, ?_,rfl⟩;(first|rfl))|(refine ⟨_,_,_,rfl,zwr _,zsr _, ?_,rfl⟩)|(refine ⟨_,_,_,rfl,zwf _,aB ‹_›, ?_,rfl⟩)))|apply wZ;rfl|show Cn _;constructor|exact rfl|apply KR.mk;kernel_rfl|omega|intros;omega|simp only [zql];omega|intros;simp only [zql];omega|intros;simp only;omega|intro h;omega|intro h;simp at h;done|intro h;simp at h;omega|(intro h;simp at h)|intro h)
    subst hlp
    exact ⟨rfl,_,zsr _,k2,⟨hO.set k1 (.inr rfl),aA _ _ _,hE⟩,λe he=>(aC (hne e he)).trans (k3 e he)⟩
 ·intro idla S _ hR
  (repeat' first|apply wDx pk;rfl;kernel_rfl;rfl;rfl|(show Cn (.e _ _ _ _);refine .any ?_;(first|(refine ⟨_,_,_,rfl,zwr _,zsr _, ?_,rfl⟩;(first|rfl))|(refine ⟨_,_,_,rfl,zwr _,aB ‹_›, ?_,rfl⟩;(first|rfl))|(refine ⟨_,_,_,rfl,zwf _,zsr _, ?_,rfl⟩;(first|rfl))|(refine ⟨_,_,_,rfl,zwf _,aB ‹_›, ?_,rfl⟩;(first|rfl))|(refine ⟨_,_,_,rfl,zwr _,zsr _, ?_,rfl⟩)|(refine ⟨_,_,_,rfl,zwf _,aB ‹_›, ?_,rfl⟩)))|show Cn (.r _ _ _);refine .rr ?_;(exact hR);done|show Cn (.r _ _ _);refine .any ⟨_,_, ?zs,rfl,zwr _, ?zh, ?zr⟩;(case zh=>(refine aF ?_ ‹_›;(repeat refine aF ?_ ‹_›);exact zsr _));(case zr=>(exact hR))|apply wZ;rfl|show Cn _;constructor|exact rfl|apply KR.mk;kernel_rfl|apply ncA;rfl;rfl;rfl;rotate_left;rfl;rfl|apply ldR pk;rfl;rfl;rotate_left;rfl;(focus ((repeat (first|exact aA _ _ _|assumption|refine (aC ‹_›).trans ?_));done));rfl;rfl|apply stR pk;rfl;rfl;(focus ((repeat (first|exact aA _ _ _|assumption|refine (aC ‹_›).trans ?_));done));rfl;rfl|omega|intros;omega|simp only [zql];omega|intros;simp only [zql];omega|intros;simp only;omega|intro h;omega|intro h;simp at h;done|intro h;simp at h;omega|(intro h;simp at h)|intro h)
end
section
set_option maxRecDepth 10000
set_option maxHeartbeats 4000000
def eO :Option (Nat×List Wd)->PV
 |none=> .val (.slice none 0 0)
 |some y=> .vec y.1 2 0 y.2.length
def oC :Option (Nat×List Wd)->List Wd
 |none=>[]
 |some y=>y.2
structure GaJ (st0:aD) (lp:AObj) (idl id2:Nat) (p:List Wd) (E:Nat->Prop) (S:aD):Prop where
 loop:S idl=some lp
 acc:∃a,oC a=p/\S id2=some (.cells 117 [eO a])/\∀y,a=some y->S y.1=some (.arr 121 (y.2.map Wd.cells))/\st0 y.1=none/\y.1≠idl/\y.1≠id2/\¬E y.1
 old:∀j,st0 j≠none->S j=st0 j
 ex:∀e,E e->S e≠none/\e≠idl/\e≠id2/\st0 e=none
theorem GaJ.opn {st0:aD} {lp:AObj} {idl id2:Nat}:Opn (GaJ st0 lp idl id2):=by
 refine ⟨fun {p E S e o} h he=> ?_,fun {p E S e o} h he=> ?_,fun {p E F S e} h he hF=> ?_,fun {p E S e} h he=>(h.ex e he).1⟩
 ·obtain ⟨h1,⟨a,a1,a2,a3⟩,h3,h4⟩:=h
  have n1:e≠idl:=λq=>by rw [q,h1] at he;cases he
  have n2:e≠id2:=λq=>by rw [q,a2] at he;cases he
  have n3:st0 e=none:=Decidable.byContradiction λq=>q ((h3 e q).symm.trans he)
  refine ⟨(aC (Ne.symm n1)).trans h1,⟨a,a1,(aC (Ne.symm n2)).trans a2,λy hy=> ?_⟩,λj hj=>(aC (d:=e) (t:=j) λq=>hj (q▸n3)).trans (h3 j hj),λi hi=> ?_⟩
  ·obtain ⟨b1,b2,b3,b4,b5⟩:=a3 y hy
   have n4:y.1≠e:=λq=>by rw [q,he] at b1;cases b1
   exact ⟨(aC n4).trans b1,b2,b3,b4,λq=>q.elim b5 n4⟩
  ·rcases hi with hi|rfl
   ·obtain ⟨b1,b2⟩:=h4 i hi
    have n4:i≠e:=λq=>b1 (q▸he)
    exact ⟨by rw [aC n4];exact b1,b2⟩
   ·exact ⟨by rw [aA];simp,n1,n2,n3⟩
 ·obtain ⟨h1,⟨a,a1,a2,a3⟩,h3,h4⟩:=h
  obtain ⟨_,n1,n2,n3⟩:=h4 e he
  refine ⟨(aC (Ne.symm n1)).trans h1,⟨a,a1,(aC (Ne.symm n2)).trans a2,λy hy=> ?_⟩,λj hj=>(aC (d:=e) (t:=j) λq=>hj (q▸n3)).trans (h3 j hj),λi hi=> ?_⟩
  ·obtain ⟨b1,b2,b3,b4,b5⟩:=a3 y hy
   exact ⟨(aC (d:=e) (t:=y.1) λq=>b5 (q▸he)).trans b1,b2,b3,b4,b5⟩
  ·obtain ⟨b1,b2⟩:=h4 i hi
   refine ⟨?_,b2⟩
   by_cases q:i=e
   ·rw [q,aA];simp
   ·rw [aC q];exact b1
 ·obtain ⟨h1,⟨a,a1,a2,a3⟩,h3,h4⟩:=h
  obtain ⟨_,n1,n2,n3⟩:=h4 e he
  refine ⟨(aC (Ne.symm n1)).trans h1,⟨a,a1,(aC (Ne.symm n2)).trans a2,λy hy=> ?_⟩,λj hj=>(aC (d:=e) (t:=j) λq=>hj (q▸n3)).trans (h3 j hj),λi hi=> ?_⟩
  ·obtain ⟨b1,b2,b3,b4,b5⟩:=a3 y hy
   exact ⟨(aC (d:=e) (t:=y.1) λq=>b5 (q▸he)).trans b1,b2,b3,b4,λq=>b5 ((hF _).1 q).1⟩
  ·obtain ⟨q1,q2⟩:=(hF i).1 hi
   obtain ⟨b1,b2⟩:=h4 i q1
   exact ⟨by rw [aC q2];exact b1,b2⟩
theorem GaJ.grow {st0:aD} {lp busy:AObj} {idl id2:Nat} {p:List Wd} {E:Nat->Prop} {S S1:aD} (hn:idl≠id2) (h2:st0 id2=none) (hl:st0 idl=none) (h:GaJ st0 lp idl id2 p E S) {a:Option (Nat×List Wd)} (ha:oC a=p) (hbx:S id2=some (.cells 117 [eO a])) {i:Nat} {x:Wd} (hi:upd S idl (some busy) i=none)
  (hS:S1=upd (upd (upd S idl (some busy)) i (some (.arr 121 ((p++[x]).map Wd.cells)))) id2 (some (.cells 117 [eO (some (i,p++[x]))]))\/∃y,a=some y/\S1=upd (upd (upd (upd S idl (some busy)) y.1 none) i (some (.arr 121 ((p++[x]).map Wd.cells)))) id2 (some (.cells 117 [eO (some (i,p++[x]))]))):
  S1 idl=some busy/\GaJ st0 lp idl id2 (p++[x]) E (upd S1 idl (some lp))/\∀e,E e->upd S1 idl (some lp) e=S e:=by
 obtain ⟨h1,⟨a',a1,a2,a3⟩,h3,h4⟩:=h
 have ea:eO a'=eO a:=by
  have:=a2.symm.trans hbx
  simpa using this
 have ni:i≠idl:=λq=>by rw [q,aA] at hi;cases hi
 rw [aC ni] at hi
 have ni2:i≠id2:=λq=>by rw [q,hbx] at hi;cases hi
 have nE:¬E i:=λq=>(h4 i q).1 hi
 have n0:st0 i=none:=Decidable.byContradiction λq=>q ((h3 i q).symm.trans hi)
 have fin:∀{Z:Option Nat},(∀z,Z=some z->st0 z=none/\z≠idl/\¬E z)->S1=upd (upd (λj=>if Z=some j then none else upd S idl (some busy) j) i (some (.arr 121 ((p++[x]).map Wd.cells)))) id2 (some (.cells 117 [eO (some (i,p++[x]))]))->S1 idl=some busy/\GaJ st0 lp idl id2 (p++[x]) E (upd S1 idl (some lp))/\∀e,E e->upd S1 idl (some lp) e=S e:=by
  intro Z hZ e1
  have o1:∀j,j≠idl->j≠id2->j≠i->Z≠some j->S1 j=S j:=λj q1 q2 q3 q4=>by rw [e1,aC q2,aC q3,zn q4,aC q1]
  have o2:S1 i=some (.arr 121 ((p++[x]).map Wd.cells)):=by rw [e1,aC ni2,aA]
  have o3:S1 id2=some (.cells 117 [eO (some (i,p++[x]))]):=by rw [e1,aA]
  have o4:S1 idl=some busy:=by
   rw [e1,aC hn,aC (Ne.symm ni),zn (λq=>(hZ idl q).2.1 rfl),aA]
  refine ⟨o4,⟨aA _ _ _,⟨some (i,p++[x]),rfl,(aC (Ne.symm hn)).trans o3,λy hy=> ?_⟩,λj hj=> ?_,λe he=> ?_⟩,λe he=> ?_⟩
  ·cases hy
   exact ⟨(aC ni).trans o2,n0,ni,ni2,nE⟩
  ·have q1:j≠idl:=λq=>hj (q▸hl)
   rw [aC q1,o1 j q1 (λq=>hj (q▸h2)) (λq=>hj (q▸n0)) (λq=>hj (hZ j q).1)]
   exact h3 j hj
  ·obtain ⟨b1,b2,b3,b4⟩:=h4 e he
   refine ⟨?_,b2,b3,b4⟩
   rw [aC b2,o1 e b2 b3 (λq=>nE (q▸he)) (λq=>(hZ e q).2.2 he)]
   exact b1
  ·obtain ⟨b1,b2,b3,b4⟩:=h4 e he
   rw [aC b2,o1 e b2 b3 (λq=>nE (q▸he)) (λq=>(hZ e q).2.2 he)]
 rcases hS with hS|⟨y,hy,hS⟩
 ·exact fin (Z:=none) (λ_ q=>(by cases q)) (by rw [hS];rfl)
 ·subst hy
  obtain ⟨b1,b2,b3,b4,b5⟩:S y.1=some (.arr 121 (y.2.map Wd.cells))/\st0 y.1=none/\y.1≠idl/\y.1≠id2/\¬E y.1:=by
   cases a' with
   |none=>simp [eO] at ea
   |some y'=>
    have:=a3 y' rfl
    simp only [eO,PV.vec.injEq,true_and] at ea
    have e2:y'.2=y.2:=by
     have:oC (some y')=oC (some y):=a1.trans ha.symm
     exact this
    rw [<-ea.1,<-e2];exact this
  refine fin (Z:=some y.1) (λz q=>by cases q;exact ⟨b2,b3,b5⟩) ?_
  rw [hS]
  congr 1
  congr 1
  funext j
  by_cases q:j=y.1
  ·subst q;rw [aA,zp rfl]
  ·rw [aC q,zn (λw=>q (Option.some.inj w).symm)]
end
section
attribute [local irreducible] Ev PWp
set_option maxRecDepth 10000
set_option maxHeartbeats 4000000
theorem aqI {fa:FuncId} {ca:List PV} {xs:List Wd} (ha:xY fa ca xs) (hlen:xs.length<=100000) (st:aD):PC Tryz.prog 123 [.val (.slice none 0 0), .fn fa ca] st λr S=>∃b,r=eO b/\oC b=xs/\(∀y,b=some y->S y.1=some (.arr 121 (y.2.map Wd.cells))/\st y.1=none)/\∀j,st j≠none->S j=st j:=by
 refine pC Tryz.func123 rfl ?_
 (repeat' first|(show Cn (.r _ _ _);refine .any ⟨_,_,_,rfl,zwr _,zsr _, ?_,rfl⟩;try rfl)|apply wZ;rfl|show Cn _;constructor|exact rfl|apply KR.mk;kernel_rfl|omega|intros;omega|simp only [zql];omega|intros;simp only [zql];omega|intros;simp only;omega|intro h;omega|intro h;simp at h;done|intro h;simp at h;omega|(intro h;simp at h)|intro h)
 refine zY 2 rfl rfl λid2 h2=> ?_
 have h2:st id2=none:=h2
 refine pJ [(2, .ref id2 0)] rfl rfl ⟨rfl,trivial⟩ (λidl S=>∃a,oC a=xs/\S id2=some (.cells 117 [eO a])/\idl≠id2/\(∀y,a=some y->S y.1=some (.arr 121 (y.2.map Wd.cells))/\st y.1=none/\y.1≠idl)/\∀j,st j≠none->upd S idl none j=st j) ?_ ?_
 ·intro idl hidl
  have hidl:upd st id2 (some (.cells 117 [.val (.slice none 0 0)])) idl=none:=hidl
  have nl2:idl≠id2:=λe=>by rw [e,aA] at hidl;cases hidl
  have hsl:st idl=none:=by rwa [aC nl2] at hidl
  generalize hlp:AObj.loop _ _ _ _ _ _=lp
  have:=ha (idl:=idl) (st:=upd (upd st id2 (some (.cells 117 [.val (.slice none 0 0)]))) idl (some lp)) (J:=GaJ st lp idl id2) GaJ.opn ?_ ?_
  ·refine ⟨this.1,λw g vs h1 h2=>(this.2 w g vs h1 h2).mono ?_⟩
   rintro e w' ⟨v,q,S,g',h3,⟨k1,⟨a,a1,a2,a3⟩,k3,k4⟩,h4⟩
   exact ⟨v,q,S,g',h3,⟨k1,a,a1,a2,nl2,λy hy=>⟨(a3 y hy).1,(a3 y hy).2.1,(a3 y hy).2.2.1⟩,λj hj=>(aC (d:=idl) (t:=j) λq=>hj (q▸hsl)).trans (k3 j hj)⟩,h4⟩
  ·refine ⟨aA _ _ _,⟨none,rfl,(aC (Ne.symm nl2)).trans (aA _ _ _),λ_ q=>by cases q⟩,λj hj=> ?_,λ_ q=>q.elim⟩
   rw [aC (λq=>hj (by rw [q];exact hsl)),aC (λq=>hj (by rw [q];exact h2))]
  ·intro p x E S hp hJ
   have hpl:p.length+1<=100000:=by
    have:=hp.length_le
    rw [zla,List.length_singleton] at this;omega
   obtain ⟨a,a1,hbx,a3⟩:=hJ.acc
   have hbn:(oC a).length<=100000:=by rw [a1];omega
   have nb2:id2≠idl:=Ne.symm nl2
   have hfin:=λ(busy:AObj) (i:Nat) (S1:aD)=>hJ.grow (busy:=busy) (i:=i) (S1:=S1) (x:=x) nl2 h2 hsl a1 hbx
   have hloop:=hJ.loop
   rw [<-hlp] at hloop
   have hbb:∀o,upd S idl o id2=some (.cells 117 [eO a]):=λo=>(aC nb2).trans hbx
   refine alU (R:=λS'=>GaJ st lp idl id2 (p++[x]) E S'/\∀e,E e->S' e=S e) hloop (show 7<13 by decide) ?_
   show PWp _ _ _ (((St.nilR idl 13 S).pv 2 (.ref id2 0)).pv 7 (.agg x.cells))
   (repeat' first|(show Cn (.r _ _ _);refine .any ⟨_,_,_,rfl,zwr _,zsr _, ?_,rfl⟩;try rfl)|apply wZ;rfl|show Cn _;constructor|exact rfl|apply KR.mk;kernel_rfl|omega|intros;omega|simp only [zql];omega|intros;simp only [zql];omega|intros;simp only;omega|intro h;omega|intro h;simp at h;done|intro h;simp at h;omega|(intro h;simp at h)|intro h)
   refine ⟨rfl,hloop, ?_⟩
   cases a with
   |none=>
    have a1':p=[]:=a1.symm
    subst a1'
    (repeat' first|apply wDx pk;rfl;kernel_rfl;rfl;rfl|(show Cn (.r _ _ _);refine .any ⟨_,_,_,rfl,zwr _,zsr _, ?_,rfl⟩;try rfl)|apply wZ;rfl|show Cn _;constructor|exact rfl|apply KR.mk;kernel_rfl|apply ncA;rfl;rfl;rfl;rotate_left;rfl;rfl|apply ldR pk;rfl;rfl;rotate_left;rfl;(focus ((repeat (first|exact aA _ _ _|assumption|refine (aC ‹_›).trans ?_));done));rfl;rfl|apply stR pk;rfl;rfl;(focus ((repeat (first|exact aA _ _ _|assumption|refine (aC ‹_›).trans ?_));done));rfl;rfl|(apply apV pk (f:=Wd.cells) [x] 48;(iterate 9 rfl);(focus ((repeat (first|exact aA _ _ _|assumption|refine (aC ‹_›).trans ?_));done));(first|omega|assumption|(focus (simp;done))|(focus (simp;omega))|(focus (simp at*;omega)));exact λ_=>rfl;exact λ_=>rfl;exact jJ;(first|omega|assumption|(focus (simp;done))|(focus (simp;omega))|(focus (simp at*;omega)));(first|omega|assumption|(focus (simp;done))|(focus (simp;omega))|(focus (simp at*;omega)));rfl;intro id' hid')|(apply ap0 pk (f:=Wd.cells) [x] 48;(iterate 10 rfl);exact λ_=>rfl;exact λ_=>rfl;exact jJ;(first|omega|assumption|(focus (simp;done))|(focus (simp;omega))|(focus (simp at*;omega)));(first|omega|assumption|(focus (simp;done))|(focus (simp;omega))|(focus (simp at*;omega)));rfl;intro id' hid')|(apply ixA pk;(iterate 5 rfl);rotate_left;rfl;(intro hw;(first|exact (show _=((i:Nat):Int) from by omega)|(simp [gw] at hw;first|exact (show _=((i:Nat):Int) from by omega)|refine (show _=((0:Nat):Int) from ?_);omega)|exact rfl));(intro hw;(first|omega|(focus (simp [gw] at hw;done))|simp [gw] at hw;omega|simp only [zqs];omega));rfl;(first|exact Nat.zero_add _|exact rfl))|apply ldA pk Wd.elem;rfl;rfl;rotate_left;rfl;(focus ((repeat (first|exact aA _ _ _|assumption|refine (aC ‹_›).trans ?_));done));(intro hw;(first|omega|(focus (simp [gw] at hw;done))|simp [gw] at hw;omega|simp only [zqs];omega));rfl|apply stA pk Wd.elem;rfl;rfl;rfl;(focus ((repeat (first|exact aA _ _ _|assumption|refine (aC ‹_›).trans ?_));done));(first|omega|simp only [zqs];omega);rfl|apply ldR pk;rfl;rfl;rotate_left;rfl;exact hbb _;rfl;rfl|apply stR pk;rfl;rfl;exact (aC (λe=>Option.some_ne_none _ ((hbb _).symm.trans ((congrArg (upd S idl _) e).trans hid')))).trans (hbb _);rfl;rfl|omega|intros;omega|simp only [zql];omega|intros;simp only [zql];omega|intros;simp only;omega|intro h;omega|intro h;simp at h;done|intro h;simp at h;omega|(intro h;simp at h)|intro h)
    obtain ⟨g1,g2,g3⟩:=hfin _ id' _ hid' (.inl rfl)
    subst hlp
    exact ⟨rfl,_,zsr _,g1,g2,g3⟩
   |some z=>
    have a1':p=z.2:=a1.symm
    subst a1'
    obtain ⟨b1,b2,b3,b4,b5⟩:=a3 z rfl
    have hz3:∀o,upd S idl o z.1=some (.arr 121 (z.2.map Wd.cells)):=λo=>(aC b3).trans b1
    have n3z:id2≠z.1:=Ne.symm b4
    have hlz:z.2.length<=100000:=hbn
    (repeat' first|apply wDx pk;rfl;kernel_rfl;rfl;rfl|(show Cn (.r _ _ _);refine .any ⟨_,_,_,rfl,zwr _,zsr _, ?_,rfl⟩;try rfl)|apply wZ;rfl|show Cn _;constructor|exact rfl|apply KR.mk;kernel_rfl|apply ncA;rfl;rfl;rfl;rotate_left;rfl;rfl|apply ldR pk;rfl;rfl;rotate_left;rfl;(focus ((repeat (first|exact aA _ _ _|assumption|refine (aC ‹_›).trans ?_));done));rfl;rfl|apply stR pk;rfl;rfl;(focus ((repeat (first|exact aA _ _ _|assumption|refine (aC ‹_›).trans ?_));done));rfl;rfl|(apply ixA pk;(iterate 5 rfl);rotate_left;rfl;(intro hw;(first|exact (show _=((i:Nat):Int) from by omega)|(simp [gw] at hw;first|exact (show _=((i:Nat):Int) from by omega)|refine (show _=((0:Nat):Int) from ?_);omega)|exact rfl));(intro hw;(first|omega|(focus (simp [gw] at hw;done))|simp [gw] at hw;omega|simp only [zqs];omega));rfl;(first|exact Nat.zero_add _|exact rfl))|apply ldA pk Wd.elem;rfl;rfl;rotate_left;rfl;(focus ((repeat (first|exact aA _ _ _|assumption|refine (aC ‹_›).trans ?_));done));(intro hw;(first|omega|(focus (simp [gw] at hw;done))|simp [gw] at hw;omega|simp only [zqs];omega));rfl|apply stA pk Wd.elem;rfl;rfl;rfl;(focus ((repeat (first|exact aA _ _ _|assumption|refine (aC ‹_›).trans ?_));done));(first|omega|simp only [zqs];omega);rfl|apply ldR pk;rfl;rfl;rotate_left;rfl;exact hbb _;rfl;rfl|(apply apV pk (f:=Wd.cells) (xs:=z.2) [x] 48;(iterate 9 rfl);exact hz3 _;rfl;exact λ_=>rfl;exact λ_=>rfl;exact jJ;(simp only [zlc,List.length_nil];omega);(simp only [zlc,List.length_nil];omega);rfl;intro id' hid')|apply stR pk;rfl;rfl;exact (aC (λe=>Option.some_ne_none _ ((hbb _).symm.trans ((congrArg (upd S idl _) e).trans hid')))).trans ((aC n3z).trans (hbb _));rfl;rfl|omega|intros;omega|simp only [zql];omega|intros;simp only [zql];omega|intros;simp only;omega|intro h;omega|intro h;simp at h;done|intro h;simp at h;omega|(intro h;simp at h)|intro h)
    have hg:=hfin _ id' _ hid' (.inr ⟨z,rfl,rfl⟩)
    rw [show eO (some (id',z.2++[x]))= .vec id' 2 0 (z.2.length+[x].length) from by simp [eO]] at hg
    obtain ⟨g1,g2,g3⟩:=hg
    subst hlp
    exact ⟨rfl,_,zsr _,g1,g2,g3⟩
 ·rintro idl S hidl ⟨a,a1,hbx,nl2,a3,ho⟩
  have hbb:∀o,upd S idl o id2=some (.cells 117 [eO a]):=λo=>(aC (Ne.symm nl2)).trans hbx
  (repeat' first|apply wDx pk;rfl;kernel_rfl;rfl;rfl|show Cn (.r _ _ _);refine .rr ?_;(exact ⟨a,rfl,a1,λy hy=>⟨(aC (a3 y hy).2.2).trans (a3 y hy).1,(a3 y hy).2.1⟩,ho⟩);done|(show Cn (.r _ _ _);refine .any ⟨_,_, ?zs,rfl,zwr _, ?zh, ?zr⟩;(case zh=>(refine aF ?_ ‹_›;(repeat refine aF ?_ ‹_›);exact zsr _));(case zr=>(exact ⟨a,rfl,a1,λy hy=>⟨(aC (a3 y hy).2.2).trans (a3 y hy).1,(a3 y hy).2.1⟩,ho⟩)))|apply wZ;rfl|show Cn _;constructor|exact rfl|apply KR.mk;kernel_rfl|apply ncA;rfl;rfl;rfl;rotate_left;rfl;rfl|apply ldR pk;rfl;rfl;rotate_left;rfl;(focus ((repeat (first|exact aA _ _ _|assumption|refine (aC ‹_›).trans ?_));done));rfl;rfl|apply stR pk;rfl;rfl;(focus ((repeat (first|exact aA _ _ _|assumption|refine (aC ‹_›).trans ?_));done));rfl;rfl|apply ldR pk;rfl;rfl;rotate_left;rfl;exact hbb _;rfl;rfl|omega|intros;omega|simp only [zql];omega|intros;simp only [zql];omega|intros;simp only;omega|intro h;omega|intro h;simp at h;done|intro h;simp at h;omega|(intro h;simp at h)|intro h)
theorem aaW {fa:FuncId} {ca:List PV} {xs:List Wd} (ha:xY fa ca xs) (hlen:xs.length<=100000):PF Tryz.prog 75 [.fn fa ca] (.seq (xs.map Wd.cells)):=λst=>by
 have hap:=aqI ha hlen st
 have hpc:PC Tryz.prog 75 [.fn fa ca] st λr S=>∃b,r=eO b/\oC b=xs/\(∀y,b=some y->S y.1=some (.arr 121 (y.2.map Wd.cells))/\st y.1=none)/\∀j,st j≠none->S j=st j:=by
  refine pC Tryz.func75 rfl ?_
  (repeat' first|apply wDx pk;rfl;kernel_rfl;rfl;rfl|(show Cn (.e _ _ _ _);refine .any ?_;(first|(refine ⟨_,_,_,rfl,zwr _,zsr _, ?_,rfl⟩;(first|rfl))|(refine ⟨_,_,_,rfl,zwr _,aB ‹_›, ?_,rfl⟩;(first|rfl))|(refine ⟨_,_,_,rfl,zwf _,zsr _, ?_,rfl⟩;(first|rfl))|(refine ⟨_,_,_,rfl,zwf _,aB ‹_›, ?_,rfl⟩;(first|rfl))|(refine ⟨_,_,_,rfl,zwr _,zsr _, ?_,rfl⟩)|(refine ⟨_,_,_,rfl,zwf _,aB ‹_›, ?_,rfl⟩)))|show Cn (.r _ _ _);refine .rr ?_;(exact ⟨b,rfl,h1,h2,h3⟩);done|show Cn (.r _ _ _);refine .any ⟨_,_, ?zs,rfl,zwr _, ?zh, ?zr⟩;(case zh=>(refine aF ?_ ‹_›;(repeat refine aF ?_ ‹_›);exact zsr _));(case zr=>(exact ⟨b,rfl,h1,h2,h3⟩))|apply wZ;rfl|show Cn _;constructor|exact rfl|apply KR.mk;kernel_rfl|apply ncA;rfl;rfl;rfl;rotate_left;rfl;rfl|apply ldR pk;rfl;rfl;rotate_left;rfl;(focus ((repeat (first|exact aA _ _ _|assumption|refine (aC ‹_›).trans ?_));done));rfl;rfl|apply stR pk;rfl;rfl;(focus ((repeat (first|exact aA _ _ _|assumption|refine (aC ‹_›).trans ?_));done));rfl;rfl|((apply eE;rfl;rfl;exact hap;rfl;rfl;rfl;intro _ st' hR;obtain ⟨b,rfl,h1,h2,h3⟩:=hR))|omega|intros;omega|simp only [zql];omega|intros;simp only [zql];omega|intros;simp only;omega|intro h;omega|intro h;simp at h;done|intro h;simp at h;omega|(intro h;simp at h)|intro h)
 refine eZ (sz:=2) hpc λp st' h=> ?_
 obtain ⟨b,rfl,h2,h3,h4⟩:=h
 have hsub:StSub st st':=λj=>by
  by_cases q:st j=none
  ·exact .inl q
  ·exact .inr (h4 j q).symm
 cases b with
 |none=>
  have e:xs=[]:=h2.symm
  rw [e]
  exact .inr ⟨_,st,Wk.nil,hsub,rfl,rfl⟩
 |some z=>
  obtain ⟨h5,h6⟩:=h3 z rfl
  have e:xs=z.2:=h2.symm
  rw [e]
  refine .inl ⟨z.1,121,z.2.map Wd.cells,_,st,h5,uG,eH (by simp),λj=> ?_,rfl,rfl⟩
  by_cases q:j=z.1
  ·subst q;exact .inl h6
  ·rw [aC q];exact hsub j
end
end Go.Proofs.YtppdefkgmegipaaGreatDoor
