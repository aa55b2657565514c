import Derived.Test.YtfablfldonhkiaaGreatDoorClAk
import Derived.Test.YtfablfldonhkiaaGreatDoorClAe
import Derived.Test.YtfablfldonhkiaaGreatDoorClAa
set_option linter.unusedSimpArgs false
set_option linter.unusedVariables false
namespace Go.Proofs.YtfablfldonhkiaaGreatDoor
open Go Go.Abs
attribute [local irreducible] Ev PWp
set_option maxRecDepth 10000
set_option maxHeartbeats 4000000
theorem aKO {A B:List (List PV)} (hl:A.length=B.length) (h:∀x∈A.zip B,WkL x.1 x.2):Wk (.seq A) (.seq B):=by
 have:=Wk.rows (f:=Prod.fst) (k:=Prod.snd) (l:=A.zip B) h;rwa [List.map_fst_zip (by omega),List.map_snd_zip (by omega)] at this
theorem wk1 {a b:List PV} (h:WkL a b):Wk (.seq [a]) (.seq [b]):=aKO rfl λx hx=>by
 rw [zms.1 hx];exact h
theorem wk2 {a b c d:List PV} (h:WkL a b) (k:WkL c d):Wk (.seq [a,c]) (.seq [b,d]):=aKO rfl λx hx=>by
 simp only [List.zip_cons_cons,List.zip_nil_left,zmc,List.not_mem_nil,or_false] at hx
 rcases hx with rfl|rfl
 ·exact h
 ·exact k
def yO :PV:= .val (.slice none 0 0)
def aK4 (n:Int):Vl:=if n<0 then Vl.zero else ⟨1,n,e0⟩
def cV (n:Int):Cl:=⟨0,aK4 n,[]⟩
structure ScG (s:Sc):Prop where
 l:s.length<200000000000000
 b:ScB s
 k:∀t∈s,vE t
end Go.Proofs.YtfablfldonhkiaaGreatDoor
namespace Go.Proofs.YtfablfldonhkiaaGreatDoor
open Go Go.Abs Go.ChangeShapes Go.WideShapes Go.ChangeAt Go.RowKit
set_option maxRecDepth 10000
theorem aJ0 {N n:Nat} {ps:List PV} (h:bO Tryz.prog N n 132 ps):∃v:Co,ps=v.cells:=by
 obtain ⟨m,f,_,rfl,e⟩:=bY aS rfl h;cases e with|cons ha e=>cases e with|cons hb e=>cases e with|cons hc e=>cases e with|cons hd e=>cases e with|nil=>
 obtain ⟨a,rfl,_⟩:=yR aS rfl ha;obtain ⟨b,rfl,_⟩:=bK aS rfl hb;obtain ⟨c,rfl,_⟩:=bK aS rfl hc;obtain ⟨d,rfl⟩:=adU aS rfl hd;exact ⟨⟨a,b,c,d⟩,rfl⟩
theorem aHX {N n t:Nat} {fs:List (TypeId×Nat)} (ht:tiK tt t=some (.struct fs)) {α:Type} {f:α->List PV} (hf:fs.map (·.1)=[3,3,3]) (mk:Int->Int->Int->α) (hm:∀a b c,f (mk a b c)=[(vi (a)),(vi (b)),(vi (c))]) {ps:List PV} (h:bO Tryz.prog N n t ps):∃v:α,ps=f v:=by
 obtain ⟨m,e,_,rfl,d⟩:=bY aS ht h;rw [hf] at d;cases d with|cons ha d=>cases d with|cons hb d=>cases d with|cons hc d=>cases d with|nil=>
 obtain ⟨a,rfl,_⟩:=bK aS rfl ha;obtain ⟨b,rfl,_⟩:=bK aS rfl hb;obtain ⟨c,rfl,_⟩:=bK aS rfl hc;exact ⟨mk a b c,(hm a b c).symm⟩
theorem awP :∀{l:List X.Ex},(∀e∈l,e.ok)->X.Ex.oks l
 |[],_=>by simp [X.Ex.oks]
 |e::l,h=>by
  simp only [X.Ex.oks]
  exact ⟨h e (List.mem_cons_self ..),awP λx hx=>h x (List.mem_cons_of_mem _ hx)⟩
theorem aKU :∀{n:Nat} {ps:List PV},bO Tryz.prog reachBytes n 129 ps->∃e:X.Ex,ps=e.cells/\e.ok:=by
 intro n
 induction n using Nat.strongRecOn with
 |_ n ih=>
  intro ps h;obtain ⟨m,q,hm,rfl,d⟩:=bY aS rfl h;cases d with|cons ha d=>cases d with|cons hb d=>cases d with|cons hc d=>cases d with|cons hd d=>cases d with|nil=>
  obtain ⟨a,rfl,_⟩:=bK aS rfl ha;obtain ⟨b,rfl,_⟩:=bK aS rfl hb;obtain ⟨c,rfl⟩:=anM hc;obtain ⟨p,rows,k,rfl,hl,o⟩:=cH aS rfl hd;obtain ⟨l,rfl,j,hq⟩:=zC (f:=X.Ex.cells) λr g=>ih p (by omega) (o r g);refine ⟨.mk a b c l,by rw [<-X.Ex.rows_map];rfl, ?_⟩;simp only [X.Ex.ok];have i:reachBytes<2^62:=by decide
  exact ⟨by omega,awP hq⟩
theorem aKq {n:Nat} {ps:List PV} (h:bO Tryz.prog reachBytes n 58 ps):∃v:Tb,ps=v.cells/\TbB v/\vE v:=by
 obtain ⟨m,t,_,rfl,g⟩:=bY aS rfl h;cases g with|cons ha g=>cases g with|cons hb g=>cases g with|cons hc g=>cases g with|cons hd g=>cases g with|cons he g=>cases g with|cons hf g=>cases g with|nil=>
 obtain ⟨a,rfl,_⟩:=yR aS rfl ha;obtain ⟨_,b,_,rfl,o,j⟩:=cH aS rfl hb;obtain ⟨b,rfl⟩:=sJ (f:=Co.cells) λr i=>aJ0 (j r i);obtain ⟨_,c,_,rfl,p,j⟩:=cH aS rfl hc;obtain ⟨c,rfl⟩:=sJ (f:=I1) λr i=>by
  obtain ⟨x,rfl,_⟩:=bK aS rfl (j r i);exact ⟨x,rfl⟩
 obtain ⟨_,d,_,rfl,ld,l⟩:=cH aS rfl hd;have k:∀c∈d,∃e:X.Ex,e.ok/\e.cells=c:=λc hc=>by
  obtain ⟨e,s,g⟩:=aKU (l c hc)
  exact ⟨e,g,s.symm⟩
 obtain ⟨_,e,_,rfl,le,j⟩:=cH aS rfl he;obtain ⟨e,rfl⟩:=sJ (f:=Fr.cells) λr i=>aHX rfl rfl Fr.mk (λ_ _ _=>rfl) (j r i);obtain ⟨_,f,_,rfl,q,j⟩:=cH aS rfl hf;obtain ⟨f,rfl⟩:=sJ (f:=Su.cells) λr i=>aHX rfl rfl Su.mk (λ_ _ _=>rfl) (j r i);rw [zql] at o p le q;have h:=show reachBytes<200000000000000 by decide
 exact ⟨⟨a,b,c,d,e,f⟩,rfl,⟨Nat.lt_of_le_of_lt o h,Nat.lt_of_le_of_lt p h,Nat.lt_of_le_of_lt ld h,Nat.lt_of_le_of_lt le h,Nat.lt_of_le_of_lt q h⟩,k⟩
theorem aG2 :Tryz.prog.bytesOf 58=136:=by kernel_rfl
theorem aKb {n:Nat} {ps:List PV} (h:bO Tryz.prog reachBytes n 24 ps):∃v:{s:Sc//ScG s/\s.length<2000000000000},ps=scC v.1:=by
 obtain ⟨m,f,_,rfl,a⟩:=bY aS rfl h;cases a with|cons ha a=>cases a with|nil=>
 obtain ⟨_,c,_,rfl,e,d⟩:=aiN aS rfl ha;obtain ⟨c,rfl,hl,hq⟩:=zC λr b=>aKq (d r b);rw [aG2,zql] at e;have h:reachBytes=140737488351232:=by decide
 exact ⟨⟨c,⟨by omega,λt ht=>(hq t ht).1,λt ht=>(hq t ht).2⟩,by omega⟩,rfl⟩
end Go.Proofs.YtfablfldonhkiaaGreatDoor
namespace Go.Proofs.YtfablfldonhkiaaGreatDoor
open Go Go.Abs
attribute [local irreducible] Ev PWp
set_option maxRecDepth 10000
set_option maxHeartbeats 4000000
theorem asZ (l:List Pt) (st:aD) (hl:l.length<1000000000000):PC Tryz.prog 248 [.seq (l.map Pt.cells)] st (LR 149 11 st (l.map Pt.cells)):=by
 refine pC Tryz.func248 rfl ?_
 (repeat' first|show Cn (.r _ _ _);refine .rr ?_;((first|exact .inr ⟨rfl,hb h,zsr _⟩|exact .inl ⟨c,by rw [zql],a,aA _ _ _,cD a⟩));done|apply wZ;rfl|show Cn _;constructor|(apply ap0 pk (f:=Pt.cells) l 96;(iterate 10 rfl);exact λ_=>rfl;exact λ_=>rfl;exact wP;(omega);(omega);rfl;intro c a)|(apply aDp pk;(iterate 6 rfl);intro b hb)|intro h)
theorem yA (l:List Pt) (st:aD) (hl:l.length<1000000000000):PC Tryz.prog 248 [.seq (l.map Pt.cells)] st λp S=>∃id,p= .vec id 11 0 l.length/\st id=none/\S=upd st id (some (.arr 149 (l.map Pt.cells))):=
 yH (adI (asZ l st hl)) λp st' ⟨id,a,b,c⟩=>⟨p,st',zwr _,zsr _,id,by rw [a,zql],b,c⟩
end Go.Proofs.YtfablfldonhkiaaGreatDoor
namespace Go.Proofs.YtfablfldonhkiaaGreatDoor.T
open Go Go.Abs
attribute [local irreducible] Ev PWp
set_option maxRecDepth 10000
set_option maxHeartbeats 4000000
def aiJ (p:Pt):Pt:={p with gone:=true}
def pI (k:Nm) (l:List Pt):List Pt:=l.map λp=>if aG p=k then aiJ p else p
def eraseP (c:Cl) (k:Nm):Cl:={c with parts:=pI k c.parts}
def jJ (k:Nm) (l:List Pt) (i:Nat):List Pt:=pI k (l.take i)++l.drop i
theorem aqS {k:Nm} {l:List Pt} {i:Nat} (h:i<l.length):(jJ k l i)[i]?=some l[i]:=by
 unfold jJ pI;rw [List.getElem?_append_right (by simp;omega)];simp [Nat.min_eq_left (Nat.le_of_lt h)]
theorem vP {k:Nm} {l:List Pt} {i:Nat} (h:i<l.length):jJ k l (i+1)=if aG l[i]=k then (jJ k l i).set i (aiJ l[i]) else jJ k l i:=by
 unfold jJ pI;rw [List.take_succ_eq_append_getElem h,List.map_append];have a:((l.take i).map λp=>if aG p=k then aiJ p else p).length=i:=by simp;omega
 split
 ·rename_i e
  rw [List.set_append_right _ _ (by omega),a,List.drop_eq_getElem_cons h];simp only [zmp,List.map_nil,zp e,Nat.sub_self,List.set_cons_zero,List.append_assoc,List.cons_append,List.nil_append]
 ·rename_i e
  rw [List.drop_eq_getElem_cons h];simp [e]
def aJa (st:aD) (c:Cl) (k:Nm) (p:PV) (st':aD):Prop:=
 ∃id,p= .agg [(vi (c.kind)),(vi (c.val.kind)),(vi (c.val.n)),(vs (c.val.s)), .vec id 11 0 c.parts.length]/\st'=upd st id (some (.arr 149 ((pI k c.parts).map Pt.cells)))/\st id=none
theorem abI (p:Pt) (d:Dt) (n:Int):aG p=⟨d,n⟩↔((aG p).dot.dev=d.dev/\(aG p).dot.seq=d.seq)/\(aG p).at_=n:=by
 rw [Nm.ext_iff,Dt.ext_iff]
theorem aE5 (c:Cl) (d:Dt) (at_:Int) (st:aD) (hl:c.parts.length<1000000000000):PC Tryz.prog 191 [.agg c.cells, .agg d.cells,(vi (at_))] st (aJa st c ⟨d,at_⟩):=by
 refine pC Tryz.func191 rfl ?_
 (repeat' first|(apply cP;rfl;(apply (yA c.parts _ hl));rintro _ st' (⟨id,rfl,b,rfl⟩))|apply wZ;rfl|show Cn _;constructor|apply wY;rfl)
 ·have b:st id=none:=b
  have g:jJ ⟨d,at_⟩ c.parts 0=c.parts:=rfl;refine aC (X:={x:Nat//x<=c.parts.length}) (λi=>((((((((St.nil 34 (upd st id (some (.arr 149 ((jJ ⟨d,at_⟩ c.parts i.1).map Pt.cells))))).pv 2 ((vi (at_)))).var 3 110 ([(vi (c.kind)),(vi (c.val.kind)),(vi (c.val.n)),(vs (c.val.s)), .vec id 11 0 c.parts.length])).var 4 80 (d.cells)).var 6 110 ([(vi (0)),(vi (0)),(vi (0)),(vs (e0)), .val (.slice none 0 0)])).pv 14 (.vec id 11 0 c.parts.length)).pv 15 ((vi ((c.parts.length:Nat))))).pv 16 ((vi ((i.1:Nat)))))) (λi=>c.parts.length-i.1) ⟨0,by omega⟩ ?_ (λi=> ?_)
  ·(repeat' first|show Cn (.t _ _);exact Cn.t0|show Cn _;constructor|exact rfl)
  obtain ⟨i,hi⟩:=i;dsimp only;have hf:c.parts.length<=i->jJ ⟨d,at_⟩ c.parts i=pI ⟨d,at_⟩ c.parts:=λh=>by unfold jJ;rw [ztl h,List.drop_eq_nil_of_le h,List.append_nil]
  have hg:=λh:i<c.parts.length=>aqS (k:=⟨d,at_⟩) h
  (repeat' first|apply wDx pk;rfl;kernel_rfl;rfl;rfl|(apply Cn.cf;focus ((apply oM);done))|show Cn (.r _ _ _);refine .rr ?_;((have e:=hf (by omega);refine ⟨id,rfl, ?_,b⟩;show upd st id _=upd st id _;rw [e]));done|((refine ⟨⟨i+1,by omega⟩, ?_,by simp only;omega⟩);(rw [vP ‹_›,zp ((abI _ _ _).2 h)]);focus ((repeat' first|show Cn (.t _ _);exact .any (cM (by (((simp only [St.pv,St.put,St.sst,St.setv,St.nil,St.var,eH]);(done)))))|show Cn _;constructor|exact rfl);done))|((refine ⟨⟨i+1,by omega⟩, ?_,by simp only;omega⟩);(rw [vP ‹_›,zn (λq=>by have:=(abI _ _ _).1 q;exact h this.1.1 this.1.2 this.2)]);focus ((repeat' first|show Cn (.t _ _);exact Cn.t0|show Cn _;constructor|exact rfl);done))|apply wZ;rfl|show Cn _;constructor|apply ldL pk Pt.elem (a:=(c.parts[i]'‹_›));rfl;rfl;rotate_left;rfl;(exact aA _ _ _);(intro _;exact (hg ‹_›));rfl|apply ixA pk;(iterate 5 rfl);rotate_left;rfl;(intro hw;(exact (show _=((i:Nat):Int) from by omega)));(intro hw;(omega));rfl;(exact Nat.zero_add _)|apply stF pk (f:=Pt.cells) (c.parts[i]'‹_›) (aiJ (c.parts[i]'‹_›));rfl;rfl;exact aA _ _ _;rfl;exact (hg ‹_›);rfl;rfl|apply wY;rfl|omega|(intro h;simp at h))
theorem erase_spec (c:Cl) (d:Dt) (at_:Int) (hl:c.parts.length<1000000000000):PF Tryz.prog 191 [.agg c.cells, .agg d.cells,(vi (at_))] (.agg (eraseP c ⟨d,at_⟩).cells):=λst=>
 gF (sz:=11) (aE5 c d at_ st hl) λp st' h=>by
  obtain ⟨id,rfl,rfl,a⟩:=h
  refine .inl ⟨id,149,(pI ⟨d,at_⟩ c.parts).map Pt.cells,_,st,aA _ _ _,ajK, .agg (.cons .refl (.cons .refl (.cons .refl (.cons .refl (.cons ?_ .nil))))),cD a,rfl,rfl⟩
  have e:((pI ⟨d,at_⟩ c.parts).map Pt.cells).length=c.parts.length:=by simp [pI]
  rw [<-e];exact .all
def wrF (d:Dt) (t:Int):List Pt->Int->Int
 |[],n=>n
 |p::r,n=>if p.dot≠d then wrF d t r n else if p.time≠t then-1 else wrF d t r (max n (p.at_+1))
def dJ (c:Cl) (w:Sp):Int:=if withinB w.time 1 1125899906842624=true/\mayN ⟨⟨w.dev,w.seq⟩,0⟩=true then wrF ⟨w.dev,w.seq⟩ w.time c.parts 0 else-1
theorem aEj {d:Dt} {t n:Int} {l:List Pt} {i:Nat} (h:i<l.length):wrF d t (l.drop i) n=if l[i].dot≠d then wrF d t (l.drop (i+1)) n else if l[i].time≠t then-1 else wrF d t (l.drop (i+1)) (max n (l[i].at_+1)):=by
 rw [List.drop_eq_getElem_cons h];rfl
theorem amH (c:Cl) (w:Sp) (hl:c.parts.length<1000000000000) (hf:∀p∈c.parts,bL p=true):PF Tryz.prog 251 [.agg c.cells, .agg w.cells] (vi (dJ c w)):=by
 refine pF Tryz.func251 rfl (λst=> ?_)
 (repeat' first|apply wZ;rfl|show Cn _;constructor|exact rfl|((first|apply rH|apply (gY ⟨⟨w.dev,w.seq⟩,0⟩)))|show (_:PV)=_;(rw [dJ,zn (by grind)]);done|apply wY;rfl|(intro h;simp at h))
 have hok:withinB w.time 1 1125899906842624=true/\mayN ⟨⟨w.dev,w.seq⟩,0⟩=true:=by grind
 refine aC (X:={x:Nat×Int//x.1<=c.parts.length/\0<=x.2/\x.2<=2000/\wrF ⟨w.dev,w.seq⟩ w.time (c.parts.drop x.1) x.2=wrF ⟨w.dev,w.seq⟩ w.time c.parts 0}) (λi=>(((((((St.nil 47 st).var 3 30 (w.cells)).var 5 80 ([(vi (w.dev)),(vi (w.seq))])).pv 6 ((vi (i.1.2)))).pv 25 (.seq (c.parts.map Pt.cells))).pv 26 ((vi ((c.parts.length:Nat))))).pv 27 ((vi ((i.1.1:Nat)))))) (λi=>c.parts.length-i.1.1) ⟨(0,0),by simp,by simp,by simp,rfl⟩ ?_ (λi=> ?_)
 ·(repeat' first|show Cn _;constructor|exact rfl|simp)
 obtain ⟨⟨i,n⟩,hi,hn0,hn1,hinv⟩:=i
 simp only at hi hn0 hn1 hinv
 dsimp only
 have hs:=λh:i<c.parts.length=>aEj (d:=⟨w.dev,w.seq⟩) (t:=w.time) (n:=n) h
 have hb:=λh:i<c.parts.length=>nO (hf _ (zgm h))
 have hd:=λh:i<c.parts.length=>(Dt.ext_iff (c.parts[i]'h).dot ⟨w.dev,w.seq⟩)
 by_cases him:i<c.parts.length
 ·have hs:=hs him
  have hb:=hb him
  have hd:=hd him
  (repeat' first|((first|refine ⟨⟨(i+1,n),by simp only;omega,hn0,hn1,by rw [<-hinv,hs];grind⟩, ?_,by simp only;omega⟩|refine ⟨⟨(i+1,max n ((c.parts[i]'him).at_+1)),by simp only;omega,by simp only;omega,by simp only;omega,by rw [<-hinv,hs];grind⟩, ?_,by simp only;omega⟩);focus ((repeat' first|show Cn _;constructor|exact rfl);done))|apply wZ;rfl|show Cn _;constructor|exact rfl|show (_:PV)=_;(rw [dJ,zp hok,<-hinv,hs];grind);done|apply wI;rfl|apply gE;omega|omega|(intro h;simp at h)|intro h)
 ·(repeat' first|apply wZ;rfl|show Cn _;constructor|exact rfl|show (_:PV)=_;(rw [dJ,zp hok,<-hinv,List.drop_eq_nil_of_le (by omega)];rfl);done|omega|(intro h;simp at h))
theorem aC8 (b:FuncId) (caps:List PV) (f:Pt->Bool) (l:List Pt) (hl:l.length<4611686018427387904) (hf:∀p,PF Tryz.prog b ([.agg p.cells]++caps) (vb (f p))):PF Tryz.prog 301 [.seq (l.map Pt.cells), .fn b caps] (vi (match l.findIdx? f with|some k=>((k:Nat):Int)|none=> -1)):=by
 refine pF Tryz.func301 rfl (λst=> ?_)
 (repeat' first|apply wZ;rfl|show Cn _;constructor)
 refine aC (X:={x:Nat//x<=l.length/\∀j (h:j<x) (c:j<l.length),f l[j]=false}) (λi=>(((((St.nil 19 st).pv 0 (.seq (l.map Pt.cells))).pv 1 (.fn b caps)).pv 7 ((vi ((((l.map Pt.cells)).length:Nat))))).pv 8 ((vi ((i.1:Nat)))))) (λi=>l.length-i.1) ⟨0,by omega,by omega⟩ ?_ (λi=> ?_)
 ·(repeat' first|show Cn _;constructor|exact rfl)
 obtain ⟨i,hi,a⟩:=i;dsimp only
 (repeat' first|(refine ⟨⟨i+1,by omega,λj d c=>by rcases zls.1 d with q|q;exact a j q c;subst q;assumption⟩, ?_, ?_⟩)|apply wZ;rfl|show Cn _;constructor|exact rfl|(apply hf)|show (_:PV)=_;(first|rw [lK ‹_› ‹_› a];done|rw [mS ‹_› a]);done|apply wY;rfl|apply wI;rfl|apply gE;omega|omega|simp only [zql];omega|(intro h;simp at h)|intro h)
def fE (c:Cl) (w:Sp) (up:Nm):Int:=if up=Nm.zero then 0 else match c.parts.findIdx? (λp=>decide (aG p=up)) with
 |none=>4
 |some k=>match c.parts[k]? with
  |none=>4
  |some p=>if aN p≠w/\gI (aN p) w=false then 14 else 0
theorem aFg (up:Nm) (p:Pt):PF Tryz.prog 302 ([.agg p.cells]++[.rp up.cells]) (vb (decide (aG p=up))):=by
 refine pF Tryz.func302 rfl (λst=> ?_)
 (repeat' first|apply wZ;rfl|show Cn _;constructor|exact rfl|apply KR.mk;kernel_rfl|(apply oM)|show (_:PV)=_;(rw [Dt.eqb,Nm.eqb]);done|apply wY;rfl)
theorem anR (c:Cl) (w:Sp) (up:Nm) (hl:c.parts.length<1000000000000):PF Tryz.prog 252 [.agg c.cells, .agg w.cells, .agg up.cells] (vi (fE c w up)):=by
 have hz:up=Nm.zero↔(up.dot.dev=0/\up.dot.seq=0)/\up.at_=0:=by rw [Nm.ext_iff,Dt.ext_iff];rfl
 have hx:=aC8 _ _ (λp=>decide (aG p=up)) c.parts (by omega) (aFg up);cases a:c.parts.findIdx? (λp=>decide (aG p=up)) with
 |none=>
  rw [a] at hx;refine pF Tryz.func252 rfl (λst=> ?_)
  (repeat' first|apply wZ;rfl|show Cn _;constructor|exact rfl|(apply hx)|show (_:PV)=_;(first|rw [fE,zp (hz.2 h)];done|(rw [fE,zn (λq=>by have:=hz.1 q;grind),a]));done|apply bC 5;rfl;rfl|apply wY;rfl|(intro h;simp at h))
 |some k=>
  rw [a] at hx;obtain ⟨hk,d,e⟩:=List.findIdx?_eq_some_iff_getElem.1 a;have f:=Sp.ext_iff (aN c.parts[k]) w;have b:up≠Nm.zero->fE c w up=if aN c.parts[k]≠w/\gI (aN c.parts[k]) w=false then 14 else 0:=λh=>by
   rw [fE,zn h,a];simp only [zgg hk]
  refine pF Tryz.func252 rfl (λst=> ?_)
  (repeat' first|apply wZ;rfl|show Cn _;constructor|exact rfl|((first|apply hx|apply (lS (c.parts[k]'hk))|apply (nK (aN (c.parts[k]'hk)) w)))|show (_:PV)=_;(first|rw [fE,zp (hz.2 h)];done|(rw [b (λq=>by have:=hz.1 q;grind)];grind));done|apply bC 5;rfl;rfl|apply wY;rfl|apply wI;rfl|apply gE;omega|(intro h;simp at h))
def tyF (w:Sp):List UInt8->Int->Nm->List Pt
 |[],_,_=>[]
 |b::r,n,up=>⟨⟨1,(b.toNat:Int),e0⟩,⟨w.dev,w.seq⟩,n,w.time,up.dot,up.at_,false⟩::tyF w r (n+1) ⟨⟨w.dev,w.seq⟩,n⟩
def typeP (c:Cl) (s:ByteArray) (w:Sp) (up:Nm):Cl×Int:=
 if rightP c≠0 then (Cl.zero,rightP c)
 else if dJ c w<0 then (Cl.zero,1)
 else if 200<s.size\/2000<c.parts.length+s.size\/2000<dJ c w+s.size then (Cl.zero,2)
 else if fE c w up≠0 then (Cl.zero,fE c w up)
 else ({c with parts:=cQ (c.parts++tyF w s.data.toList (dJ c w) up)},0)
theorem abM {d:Dt} {t:Int}:∀{l:List Pt} {n:Int},(∀p∈l,bL p=true)->0<=n->n<=2000-> -1<=wrF d t l n/\wrF d t l n<=2000
 |[],n,_,h1,h2=>by simp only [wrF];omega
 |p::r,n,hf,h1,h2=>by
  have hp:=nO (hf p (by simp))
  have a:∀q∈r,bL q=true:=λq hq=>hf q (by simp [hq])
  simp only [wrF]
  split
  ·exact abM a h1 h2
  ·split
   ·omega
   ·exact abM a (by omega) (by omega)
theorem aiW {c:Cl} {w:Sp} (hf:∀p∈c.parts,bL p=true): -1<=dJ c w/\dJ c w<=2000:=by
 unfold dJ;split
 ·exact abM hf (by omega) (by omega)
 ·omega
def upI (w:Sp) (n:Int) (up:Nm) (i:Nat):Nm:=if i=0 then up else ⟨⟨w.dev,w.seq⟩,n+i-1⟩
def tyE (w:Sp) (n:Int) (up:Nm) (i:Nat) (b:UInt8):Pt:=⟨⟨1,(b.toNat:Int),e0⟩,⟨w.dev,w.seq⟩,n+i,w.time,(upI w n up i).dot,(upI w n up i).at_,false⟩
theorem axW (w:Sp):∀(bs:List UInt8) (n:Int) (up:Nm) (i:Nat) (b:UInt8),bs[i]?=some b->(tyF w bs n up)[i]?=some (tyE w n up i b)
 |[],_,_,_,_,h=>by simp at h
 |c::bs,n,up,0,b,h=>by
  simp at h;subst h
  simp [tyF,upI,tyE]
 |c::bs,n,up,i+1,b,h=>by
  rw [List.getElem?_cons_succ] at h
  have:=axW w bs (n+1) ⟨⟨w.dev,w.seq⟩,n⟩ i b h
  rw [tyF,List.getElem?_cons_succ,this]
  have e:upI w (n+1) ⟨⟨w.dev,w.seq⟩,n⟩ i=upI w n up (i+1):=by
   unfold upI;by_cases hi:i=0
   ·subst hi;simp
   ·rw [zn hi,zn (by omega)];congr 1;omega
  rw [tyE,tyE,e];congr 2;omega
theorem abJ (w:Sp):∀(bs:List UInt8) (n:Int) (up:Nm),(tyF w bs n up).length=bs.length
 |[],_,_=>rfl
 |c::bs,n,up=>by rw [tyF,zlc,abJ w bs];rfl
theorem aJI (w:Sp) (n:Int) (up:Nm) (i:Nat) (b:UInt8):PF Tryz.prog 253 [.agg [(vi (1)),(vi ((b.toNat:Int))),(vs (e0)),(vi (w.dev)),(vi (w.seq)),(vi (n+i)),(vi (w.time)),(vi ((upI w n up i).dot.dev)),(vi ((upI w n up i).dot.seq)),(vi ((upI w n up i).at_)),(vb (false))]] (.agg [(vi (w.dev)),(vi (w.seq)),(vi (n+i))]):=oM (tyE w n up i b)
theorem type_spec (c:Cl) (s:ByteArray) (w:Sp) (d:Dt) (at_:Int) (hl:c.parts.length<1000000000000) (hs:s.size<1000000):PF Tryz.prog 189 [.agg c.cells,(vs (s)), .agg w.cells, .agg d.cells,(vi (at_))] (.tup [.agg (typeP c s w ⟨d,at_⟩).1.cells,(vi ((typeP c s w ⟨d,at_⟩).2))]):=by
 intro st
 by_cases hr:rightP c=0
 ·have hW:=(gT hr).2.2.1
  have hwr:=aiW (c:=c) (w:=w) hW.formed
  have hr0:=hr
  obtain ⟨tyL,htl⟩:∃t,tyF w s.data.toList (dJ c w) ⟨d,at_⟩=t:=⟨_,rfl⟩
  have hty0:tyL.length=s.size:=by rw [<-htl,abJ];rfl
  refine pC Tryz.func189 rfl ?_
  (repeat' first|(apply Cn.cf;focus (((first|apply (right_spec c (by omega))|apply (amH c w hl hW.formed)|apply (anR c w ⟨d,at_⟩ hl)));done))|(apply cP;rfl;(apply (yA c.parts _ hl));rintro _ st' (⟨id,rfl,hid,rfl⟩))|(show Cn (.r _ _ _);refine .any ?_;((refine ⟨_,_,_,rfl,zwf _,zsr _, ?_,rfl⟩;(((first|have e:typeP c s w ⟨d,at_⟩=(Cl.zero,1):=(by unfold typeP;grind);rw [e];rfl|have e:typeP c s w ⟨d,at_⟩=(Cl.zero,2):=(by unfold typeP;grind);rw [e];rfl|have e:typeP c s w ⟨d,at_⟩=(Cl.zero,fE c w ⟨d,at_⟩):=(by unfold typeP;grind);rw [e];rfl);done)))))|apply wZ;rfl|show Cn _;constructor|apply wY;rfl|omega|simp only [zql];omega|(intro h;simp at h)|intro h)
  ·have hid:st id=none:=hid
   refine aC (X:={x:Nat×Nat//x.1<=s.size/\st x.2=none}) (λi=>((((((((((St.nil 103 (upd st i.1.2 (some (.arr 149 ((c.parts++tyL.take i.1.1).map Pt.cells))))).pv 1 ((vs (s)))).var 5 110 (c.cells)).var 7 30 (w.cells)).var 10 110 ([(vi (0)),(vi (0)),(vi (0)),(vs (e0)), .val (.slice none 0 0)])).pv 13 ((vi (dJ c w)))).var 14 303 ([(vi ((upI w (dJ c w) ⟨d,at_⟩ i.1.1).dot.dev)),(vi ((upI w (dJ c w) ⟨d,at_⟩ i.1.1).dot.seq)),(vi ((upI w (dJ c w) ⟨d,at_⟩ i.1.1).at_))])).pv 16 (.vec i.1.2 11 0 (c.parts.length+i.1.1))).pv 68 ((vi ((s.size:Nat))))).pv 69 ((vi ((i.1.1:Nat)))))) (λi=>s.size-i.1.1) ⟨(0,id),by simp,hid⟩ ?_ (λi=> ?_)
   ·dsimp only
    rw [List.take_zero,List.append_nil]
    (repeat' first|show Cn (.t _ _);exact Cn.t0|show Cn _;constructor|exact rfl)
   obtain ⟨⟨i,id⟩,hi,hid⟩:=i
   simp only at hi hid
   dsimp only
   have hlen:(c.parts++tyL.take i).length=c.parts.length+i:=by rw [zla,zlt];omega
   have hlen2:((c.parts++tyL.take i).map Pt.cells).length=c.parts.length+i:=by rw [zql,hlen]
   by_cases him:i<s.size
   ·have hb:s[i]?=some s[i]:=getElem?_pos s i him
    have hp:=axW w s.data.toList (dJ c w) ⟨d,at_⟩ i s[i] (by rw [<-hb];simp [him];rfl)
    rw [htl] at hp
    have hsplit:tyL.take (i+1)=tyL.take i++[tyE w (dJ c w) ⟨d,at_⟩ i s[i]]:=by rw [List.take_add_one,hp];rfl
    (repeat' first|apply wDx pk;rfl;kernel_rfl;rfl;rfl|(apply Cn.cf;focus ((apply (aJI w (dJ c w) ⟨d,at_⟩ i s[i]));done))|refine ⟨⟨(i+1,id'),by simp only;omega,jG hid'⟩, ?_, ?_⟩;((dsimp only;rw [hsplit,<-List.append_assoc]))|show Cn (.t _ _);exact .any (bR ‹_›)|apply wZ;rfl|show Cn _;constructor|exact rfl|show _=_;((focus (simp [upI];omega)))|(apply apV pk (f:=Pt.cells) [tyE w (dJ c w) ⟨d,at_⟩ i s[i]] 96;(iterate 9 rfl);(exact aA _ _ _);(omega);exact λ_=>rfl;exact λ_=>rfl;exact xL;((focus (simp;omega)));((focus (simp;omega)));rfl;intro id' hid')|apply cvA pk.htt;(iterate 5 rfl);(refine ⟨?_, ?_⟩<;>(first|omega|have q:=(s[i]'him).toNat_lt;omega));rfl|apply sxA pk.htt i s[i];(iterate 6 rfl);exact hb;rfl|apply wY;rfl|omega|simp only [zql];omega|(intro h;simp at h))
   ·have hfin:tyL.take i=tyL:=ztl (by omega)
    rw [hfin]
    have hty:typeP c s w ⟨d,at_⟩=({c with parts:=cQ (c.parts++tyL)},0):=by
     unfold typeP;rw [zn (by omega),zn (by omega),zn (by omega),zn (by omega),<-htl]
    (repeat' first|refine Cn.any ⟨_,_,st,rfl,zwr _,aU (aU (zsr _) hid) hid, ?_,rfl⟩;rw [hty];rfl|(apply Cn.cf;focus ((apply (aeK (c.parts++tyL) (by rw [hfin] at hlen;omega)));done))|apply wZ;rfl|show Cn _;constructor|apply aHB 99;rfl;exact aA _ _ _;(rw [hfin] at hlen2;exact hlen2);exact ajK|apply wY;rfl|omega|(intro h;simp at h))
 ·refine pC Tryz.func189 rfl ?_
  (repeat' first|show Cn (.r _ _ _);refine .any ?_;((refine ⟨_,_,_,rfl,zwf _,zsr _, ?_,rfl⟩;(((have e:typeP c s w ⟨d,at_⟩=(Cl.zero,rightP c):=(by unfold typeP;rw [zp hr]);rw [e];rfl);done))))|apply wZ;rfl|show Cn _;constructor|(apply (right_spec c (by omega)))|apply wY;rfl|omega|intro h)
end Go.Proofs.YtfablfldonhkiaaGreatDoor.T
namespace Go.Proofs.YtfablfldonhkiaaGreatDoor
open Go Go.Abs
attribute [local irreducible] Ev PWp
set_option maxRecDepth 10000
set_option maxHeartbeats 4000000
def dS (xs:List Pt) (i:Nat) (a:List Pt):List Pt:=xs.take i++a++xs.drop i
theorem anO (xs:List Pt) (i:Nat) (a:List Pt):(dS xs i a).map Pt.cells=(xs.map Pt.cells).take i++a.map Pt.cells++(xs.map Pt.cells).drop i:=by
 unfold dS;rw [List.map_append,List.map_append,List.map_take,List.map_drop]
theorem aoQ {xs:List Pt} {i:Nat} {a:List Pt} (hi:i<=xs.length):(dS xs i a).length=xs.length+a.length:=by
 unfold dS;simp only [zla,zlt,zld];omega
def aIh (st:aD) (id:Nat) (zs:List Pt) (r:PV) (S:aD):Prop:=∃a,r= .vec a 11 0 zs.length/\upd st id none a=none/\S=upd (upd st id none) a (some (.arr 149 (zs.map Pt.cells)))
theorem alP (xs g:List Pt) (i id n:Nat) (st:aD) (N:st id=some (.arr 149 (xs.map Pt.cells))) (hn:xs.length=n) (hi:i<=n) (hy:g≠[]) (hl:n+g.length<1000000000000):PC Tryz.prog 245 [.vec id 11 0 n,(vi ((i:Nat))), .seq (g.map Pt.cells)] st (aIh st id (dS xs i g)):=by
 obtain ⟨m,hm⟩:∃m,g.length=m:=⟨_,rfl⟩;have t:(g.map Pt.cells).length=m:=(zql _).trans hm;have U:0<m:=by rw [<-hm];exact List.length_pos_iff.2 hy
 rw [hm] at hl;have v:(dS xs i g).length=n+m:=by rw [aoQ (by omega),hn,hm]
 have F:=anO xs i g;have Q:=wP;refine pC Tryz.func245 rfl ?_;by_cases M:i=n
 ·subst M
  have hz:dS xs i g=xs++g:=by unfold dS;rw [ztl (by omega),List.drop_of_length_le (by omega),List.append_nil]
  (repeat' first|show Cn (.r _ _ _);refine .rr ?_;(exact ⟨P,(by rw [v,hm]),jU E,(by rw [hz];rfl)⟩);done|apply wZ;rfl|show Cn _;constructor|(apply apV pk (f:=Pt.cells) g 96;(iterate 9 rfl);(assumption);(omega);exact λ_=>rfl;exact λ_=>rfl;exact Q;(omega);(omega);rfl;intro P E)|apply ayA pk i i;(iterate 4 rfl);rotate_left;rfl;(intro _;exact aL rfl rfl);(intro _;exact aZ);(intro _;omega);(intro _;omega);rfl|omega|(intro h;simp at h))
 have T:i<n:=by omega
 have s:(xs.map Pt.cells).length=n:=(zql _).trans hn;have x:∀r∈xs.map Pt.cells,r.all PV.one=true:=λr q=>by obtain ⟨a,_,rfl⟩:=List.mem_map.1 q;rfl
 have y:∀r∈xs.map Pt.cells,r.length=11:=λr q=>by obtain ⟨a,_,rfl⟩:=List.mem_map.1 q;rfl
 have B:∀r∈g.map Pt.cells,r.all PV.one=true:=λr q=>by obtain ⟨a,_,rfl⟩:=List.mem_map.1 q;rfl
 have p:∀r∈g.map Pt.cells,r.length=11:=λr q=>by obtain ⟨a,_,rfl⟩:=List.mem_map.1 q;rfl
 have hj:∀k,(xs.map Pt.cells++aW k 11).length=n+k:=λk=>by rw [zla,s];unfold aW;rw [List.length_replicate]
 generalize R:xs.map Pt.cells=X at*;generalize S:g.map Pt.cells=Y at*;have I:Y≠[]:=λe=>by rw [e] at t;simp at t;omega
 obtain ⟨Z,W,yr,H⟩:∃c cs G,Y=(c::cs)::G:=by
  cases A:Y with
  |nil=>exact absurd A I
  |cons a b=>
   cases ha:a with
   |nil=>have:=p a (by rw [A];simp);rw [ha] at this;cases this
   |cons c cs=>exact ⟨c,cs,b,rfl⟩
 refine uW 0 m (id:=id) (rows:=X) rfl N sK s (by omega) (by omega) (λk o hk d=> ?_) (λo d=> ?_)
 ·have d:st o=none:=d
  have O:(X++aW k 11).take i=X.take i:=List.take_append_of_le_length (by omega);have L:(X.take i++aW (n+m-i) 11).length=n+m:=by rw [zla,zlt];unfold aW;rw [List.length_replicate];omega
  have K:(aT (X.take i++aW (n+m-i) 11) i Y).length=n+m:=by rw [dP (by omega),L]
  have u:aT (aT (X.take i++aW (n+m-i) 11) i Y) (i+m) (X.drop i)=(dS xs i g).map Pt.cells:=by rw [F];rw [<-s];exact vG t (by omega)
  (repeat' first|(refine Cn.any ⟨_,_,upd (upd st id none) id2 (some (.arr 149 ((dS xs i g).map Pt.cells))),rfl,zwr _,oO (by rw [u]) d,id2,(by rw [v];congr 1;omega),mO l,rfl⟩)|apply wD pk [8] [];kernel_rfl;rfl;rfl|apply wZ;rfl|show Cn _;constructor|(refine alS pk (rows:=X++aW k 11) rfl rfl rfl rfl (.inr (aA _ _ _)) (by rw [hj];omega) rfl (λc C D=> ?_);have J:=D (aA _ _ _);rw [hj] at J)|apply zQ pk (j:=i) (rows:=X++aW k 11);(iterate 4 rfl);rotate_left;rfl;rfl;exact .inr (aA _ _ _);(rw [hj];omega);exact aL rfl rfl;(rw [hj];omega)|(refine apZ pk (kq:= .i64) (kn:= .i64) (i:=i) (m:=n+m-i) (sz:=11) (rows:=X++aW k 11) 96 rfl (congrArg (λz=>some (PV.val (.int .i64 z))) (show _=((n+m-i:Nat):Int) from by omega)) rfl (by kernel_rfl) rfl rfl rfl rfl (aA _ _ _) (by rw [hj];omega) (by rw [hj];omega) (by rw [hj];omega) Q (by omega) (by omega) (by omega) rfl (λid2 l=> ?_);rw [O];have V:o≠id2:=(λe=>by rw [<-e] at l;have l:=(aA _ _ _).symm.trans l;cases l))|apply eP pk (i) (n+m-i);(iterate 4 rfl);rotate_left;rfl;(intro _;exact ⟨_,aL rfl rfl,by omega⟩);(intro _;exact ⟨_,aZ,by omega⟩);(intro _;omega);(intro _;omega);rfl|apply eP pk (i+m) (n-i);(iterate 4 rfl);rotate_left;rfl;(intro _;exact ⟨_,aL rfl (show _=((i+m:Nat):Int) from by omega),by omega⟩);(intro _;exact ⟨_,aZ,by omega⟩);(intro _;omega);(intro _;omega);rfl|apply eP pk (i) (n-i);(iterate 4 rfl);rotate_left;rfl;(intro _;exact ⟨_,aL rfl rfl,by omega⟩);(intro _;exact ⟨_,aZ,by omega⟩);(intro _;omega);(intro _;omega);rfl|(refine kJ pk (e:=149) (sz:=11) (rows:=X.take i++aW (n+m-i) 11) (new:=Y) (m:=Y.length) (n:=Y.length) (len:=n+m-i) rfl rfl rfl rfl rfl (aA _ _ _) (by omega) (rK aS rfl rfl rfl p B) rfl p (by omega) (by omega) rfl ?_)|(refine kJ pk (e:=149) (sz:=11) (rows:=aT (X.take i++aW (n+m-i) 11) i Y) (new:=X.drop i) (m:=n-i) (n:=n-i) (len:=n-i) rfl rfl rfl rfl rfl (aA _ _ _) (by omega) (mN (k:=k) rfl (.inr ((aB ‹_›).trans ((aB ‹_›).trans (aA _ _ _)))) s (by omega) sK x (by omega) (by omega)) (by rw [zld];omega) (λr q=>y r (List.mem_of_mem_drop q)) (by omega) (by omega) rfl ?_)|omega|(intro h;simp at h)|intro h)
 ·have d:st o=none:=d
  have K:(aT (X++aW m 11) (i+m) (X.drop i)).length=n+m:=by rw [dP (by rw [zld,hj];omega),hj]
  have u:aT (aT (X++aW m 11) (i+m) (X.drop i)) i Y=(dS xs i g).map Pt.cells:=by rw [F];exact vY t (by omega)
  (repeat' first|(refine Cn.any ⟨_,_,upd (upd st id none) o (some (.arr 149 ((dS xs i g).map Pt.cells))),rfl,zwr _,oN (by rw [u]),o,(by rw [v]),jU d,rfl⟩)|apply wD pk [8] [];kernel_rfl;rfl;rfl|apply wZ;rfl|show Cn _;constructor|apply eP pk (i) (n-i);(iterate 4 rfl);rotate_left;rfl;(intro _;exact ⟨_,aL rfl rfl,by omega⟩);(intro _;exact ⟨_,aZ,by omega⟩);(intro _;omega);(intro _;omega);rfl|apply eP pk (i) (n+m-i);(iterate 4 rfl);rotate_left;rfl;(intro _;exact ⟨_,aL rfl rfl,by omega⟩);(intro _;exact ⟨_,aZ,by omega⟩);(intro _;omega);(intro _;omega);rfl|apply eP pk (i+m) (n-i);(iterate 4 rfl);rotate_left;rfl;(intro _;exact ⟨_,aL rfl (show _=((i+m:Nat):Int) from by omega),by omega⟩);(intro _;exact ⟨_,aZ,by omega⟩);(intro _;omega);(intro _;omega);rfl|(refine alS pk (rows:=X++aW m 11) rfl rfl rfl rfl (.inl (aA _ _ _)) (by rw [hj];omega) rfl (λc C D=> ?_);rw [hj] at C)|apply zQ pk (j:=n+m) (rows:=X++aW m 11);(iterate 4 rfl);rotate_left;rfl;rfl;exact .inl (aA _ _ _);(rw [hj];omega);exact aL rfl (show _=((n+m:Nat):Int) from by omega);(rw [hj];omega)|(refine ovA pk (w:=true) (tS:=108) (tR:=4) (off:=i+m) (len:=n-i) (e:=149) (sz:=11) (rows:=X++aW m 11) rfl rfl Tryz.func296 (by kernel_rfl) (by kernel_rfl) (by kernel_rfl) (by kernel_rfl) rfl rfl rfl H rfl (.inl (aA _ _ _)) (by rw [hj];omega) sK (by omega) ?_ rfl rfl ?_;rotate_left)|(refine kJ pk (e:=149) (sz:=11) (rows:=X++aW m 11) (new:=X.drop i) (m:=n+m-i) (n:=n-i) (len:=n-i) rfl rfl rfl rfl rfl (aA _ _ _) (by rw [hj];omega) (mN (k:=m) rfl (.inl (aA _ _ _)) s (by omega) sK x (by omega) (by omega)) (by rw [zld];omega) (λr q=>y r (List.mem_of_mem_drop q)) (by omega) (by omega) rfl ?_)|(refine kJ pk (e:=149) (sz:=11) (rows:=aT (X++aW m 11) (i+m) (X.drop i)) (new:=Y) (m:=Y.length) (n:=Y.length) (len:=n+m-i) rfl rfl rfl rfl rfl (aA _ _ _) (by omega) (rK aS rfl rfl rfl p B) rfl p (by omega) (by omega) rfl ?_)|omega|(intro h;simp at h)|intro h)
end Go.Proofs.YtfablfldonhkiaaGreatDoor
