import Derived.Test.YtfablfldonhkiaaGreatDoorClAk
import Derived.Test.YtfablfldonhkiaaGreatDoorClAe
import Derived.Test.YtfablfldonhkiaaGreatDoorClAa
set_option linter.unusedSimpArgs false
set_option linter.unusedVariables false
namespace Go.Proofs.YtfablfldonhkiaaGreatDoor
open Go Go.Abs
attribute [local irreducible] Ev PWp
set_option maxRecDepth 10000
set_option maxHeartbeats 4000000
theorem aIO {A B:List (List PV)} (hl:A.length=B.length) (h:∀x∈A.zip B,WkL x.1 x.2):Wk (.seq A) (.seq B):=by
 have:=Wk.rows (f:=Prod.fst) (k:=Prod.snd) (l:=A.zip B) h
 rwa [List.map_fst_zip (by omega),List.map_snd_zip (by omega)] at this
theorem wk1 {a b:List PV} (h:WkL a b):Wk (.seq [a]) (.seq [b]):=aIO rfl λx hx=>by
 rw [zms.1 hx];exact h
theorem wk2 {a b c d:List PV} (h:WkL a b) (k:WkL c d):Wk (.seq [a,c]) (.seq [b,d]):=aIO rfl λx hx=>by
 simp only [List.zip_cons_cons,List.zip_nil_left,zmc,List.not_mem_nil,or_false] at hx
 rcases hx with rfl|rfl
 ·exact h
 ·exact k
def wX :PV:= .val (.slice none 0 0)
def aI2 (n:Int):Vl:=if n<0 then Vl.zero else ⟨1,n,e0⟩
def cV (n:Int):Cl:=⟨0,aI2 n,[]⟩
structure ScG (s:Sc):Prop where
 l:s.length<200000000000000
 b:ScB s
 k:∀t∈s,tN t
end Go.Proofs.YtfablfldonhkiaaGreatDoor
namespace Go.Proofs.YtfablfldonhkiaaGreatDoor
open Go Go.Abs Go.ChangeShapes Go.WideShapes Go.ChangeAt Go.RowKit
set_option maxRecDepth 10000
theorem aIe {N n:Nat} {ps:List PV} (h:bI Tryz.prog N n 132 ps):∃v:Co,ps=v.cells:=by
 obtain ⟨m,pss,_,rfl,h2⟩:=bW aQ rfl h
 cases h2 with|cons ha h2=>cases h2 with|cons hb h2=>cases h2 with|cons hc h2=>cases h2 with|cons hd h2=>cases h2 with|nil=>
 obtain ⟨a,rfl,_⟩:=xE aQ rfl ha
 obtain ⟨b,rfl,_⟩:=bK aQ rfl hb
 obtain ⟨c,rfl,_⟩:=bK aQ rfl hc
 obtain ⟨d,rfl⟩:=abP aQ rfl hd
 exact ⟨⟨a,b,c,d⟩,rfl⟩
theorem aGJ {N n t:Nat} {fs:List (TypeId×Nat)} (ht:tiK tt t=some (.struct fs)) {α:Type} {f:α->List PV} (hf:fs.map (·.1)=[3,3,3]) (mk:Int->Int->Int->α) (hm:∀a b c,f (mk a b c)=[(vi (a)),(vi (b)),(vi (c))]) {ps:List PV} (h:bI Tryz.prog N n t ps):∃v:α,ps=f v:=by
 obtain ⟨m,pss,_,rfl,h2⟩:=bW aQ ht h
 rw [hf] at h2
 cases h2 with|cons ha h2=>cases h2 with|cons hb h2=>cases h2 with|cons hc h2=>cases h2 with|nil=>
 obtain ⟨a,rfl,_⟩:=bK aQ rfl ha
 obtain ⟨b,rfl,_⟩:=bK aQ rfl hb
 obtain ⟨c,rfl,_⟩:=bK aQ rfl hc
 exact ⟨mk a b c,(hm a b c).symm⟩
theorem auK :∀{l:List X.Ex},(∀e∈l,e.ok)->X.Ex.oks l
 |[],_=>by simp [X.Ex.oks]
 |e::l,h=>by
  simp only [X.Ex.oks]
  exact ⟨h e (List.mem_cons_self ..),auK λx hx=>h x (List.mem_cons_of_mem _ hx)⟩
theorem aIS :∀{n:Nat} {ps:List PV},bI Tryz.prog reachBytes n 129 ps->∃e:X.Ex,ps=e.cells/\e.ok:=by
 intro n
 induction n using Nat.strongRecOn with
 |_ n ih=>
  intro ps h
  obtain ⟨m,pss,hm,rfl,h2⟩:=bW aQ rfl h
  cases h2 with|cons ha h2=>cases h2 with|cons hb h2=>cases h2 with|cons hc h2=>cases h2 with|cons hd h2=>cases h2 with|nil=>
  obtain ⟨a,rfl,_⟩:=bK aQ rfl ha
  obtain ⟨b,rfl,_⟩:=bK aQ rfl hb
  obtain ⟨c,rfl⟩:=akS hc
  obtain ⟨m',rows,hm',rfl,hl,hr⟩:=cE aQ rfl hd
  obtain ⟨l,rfl,hl2,hq⟩:=xQ (f:=X.Ex.cells) λr hr'=>ih m' (by omega) (hr r hr')
  refine ⟨.mk a b c l,by rw [<-X.Ex.rows_map];rfl, ?_⟩
  simp only [X.Ex.ok]
  have h62:reachBytes<2^62:=by decide
  exact ⟨by omega,auK hq⟩
theorem aIz {n:Nat} {ps:List PV} (h:bI Tryz.prog reachBytes n 58 ps):∃v:Tb,ps=v.cells/\TbB v/\tN v:=by
 obtain ⟨m,pss,_,rfl,h2⟩:=bW aQ rfl h
 cases h2 with|cons ha h2=>cases h2 with|cons hb h2=>cases h2 with|cons hc h2=>cases h2 with|cons hd h2=>cases h2 with|cons he h2=>cases h2 with|cons hf h2=>cases h2 with|nil=>
 obtain ⟨a,rfl,_⟩:=xE aQ rfl ha
 obtain ⟨_,b,_,rfl,lb,hr⟩:=cE aQ rfl hb
 obtain ⟨b,rfl⟩:=rG (f:=Co.cells) λr hr'=>aIe (hr r hr')
 obtain ⟨_,c,_,rfl,lc,hr⟩:=cE aQ rfl hc
 obtain ⟨c,rfl⟩:=rG (f:=I1) λr hr'=>by
  obtain ⟨x,rfl,_⟩:=bK aQ rfl (hr r hr');exact ⟨x,rfl⟩
 obtain ⟨_,d,_,rfl,ld,hrd⟩:=cE aQ rfl hd
 have hck:∀c∈d,∃e:X.Ex,e.ok/\e.cells=c:=λc hc=>by
  obtain ⟨e,h1,h2⟩:=aIS (hrd c hc)
  exact ⟨e,h2,h1.symm⟩
 obtain ⟨_,e,_,rfl,le,hr⟩:=cE aQ rfl he
 obtain ⟨e,rfl⟩:=rG (f:=Fr.cells) λr hr'=>aGJ rfl rfl Fr.mk (λ_ _ _=>rfl) (hr r hr')
 obtain ⟨_,f,_,rfl,lf,hr⟩:=cE aQ rfl hf
 obtain ⟨f,rfl⟩:=rG (f:=Su.cells) λr hr'=>aGJ rfl rfl Su.mk (λ_ _ _=>rfl) (hr r hr')
 rw [zql] at lb lc le lf
 have h:=show reachBytes<200000000000000 by decide
 exact ⟨⟨a,b,c,d,e,f⟩,rfl,⟨Nat.lt_of_le_of_lt lb h,Nat.lt_of_le_of_lt lc h,Nat.lt_of_le_of_lt ld h,Nat.lt_of_le_of_lt le h,Nat.lt_of_le_of_lt lf h⟩,hck⟩
theorem aFP :Tryz.prog.bytesOf 58=136:=by kernel_rfl
theorem aGD {n:Nat} {ps:List PV} (h:bI Tryz.prog reachBytes n 24 ps):∃v:{s:Sc//ScG s/\s.length<2000000000000},ps=scC v.1:=by
 obtain ⟨m,pss,_,rfl,h2⟩:=bW aQ rfl h
 cases h2 with|cons ha h2=>cases h2 with|nil=>
 obtain ⟨_,c,_,rfl,lc,hr⟩:=agI aQ rfl ha
 obtain ⟨c,rfl,hl,hq⟩:=xQ λr hr'=>aIz (hr r hr')
 rw [aFP,zql] at lc
 have h:reachBytes=140737488351232:=by decide
 exact ⟨⟨c,⟨by omega,λt ht=>(hq t ht).1,λt ht=>(hq t ht).2⟩,by omega⟩,rfl⟩
end Go.Proofs.YtfablfldonhkiaaGreatDoor
namespace Go.Proofs.YtfablfldonhkiaaGreatDoor
open Go Go.Abs
attribute [local irreducible] Ev PWp
set_option maxRecDepth 10000
set_option maxHeartbeats 4000000
theorem aqO (l:List Pt) (st:aD) (hl:l.length<1000000000000):PC Tryz.prog 248 [.seq (l.map Pt.cells)] st (LR 149 11 st (l.map Pt.cells)):=by
 refine pC Tryz.func248 rfl ?_
 (repeat' first|show Cn (.r _ _ _);refine .rr ?_;((first|exact .inr ⟨rfl,hb h,zsr _⟩|exact .inl ⟨id',by rw [zql],hid',aA _ _ _,cF hid'⟩));done|apply wZ;rfl|show Cn _;constructor|(apply ap0 pk (f:=Pt.cells) l 96;(iterate 10 rfl);exact λ_=>rfl;exact λ_=>rfl;exact uS;(omega);(omega);rfl;intro id' hid')|(apply aCg pk;(iterate 6 rfl);intro b hb)|intro h)
theorem wF (l:List Pt) (st:aD) (hl:l.length<1000000000000):PC Tryz.prog 248 [.seq (l.map Pt.cells)] st λp S=>∃id,p= .vec id 11 0 l.length/\st id=none/\S=upd st id (some (.arr 149 (l.map Pt.cells))):=
 wO (abG (aqO l st hl)) λp st' ⟨id,h1,h2,h3⟩=>⟨p,st',zwr _,zsr _,id,by rw [h1,zql],h2,h3⟩
end Go.Proofs.YtfablfldonhkiaaGreatDoor
namespace Go.Proofs.YtfablfldonhkiaaGreatDoor.T
open Go Go.Abs
attribute [local irreducible] Ev PWp
set_option maxRecDepth 10000
set_option maxHeartbeats 4000000
def agD (p:Pt):Pt:={p with gone:=true}
def oK (k:Nm) (l:List Pt):List Pt:=l.map λp=>if aH p=k then agD p else p
def eraseP (c:Cl) (k:Nm):Cl:={c with parts:=oK k c.parts}
def iQ (k:Nm) (l:List Pt) (i:Nat):List Pt:=oK k (l.take i)++l.drop i
theorem anO {k:Nm} {l:List Pt} {i:Nat} (h:i<l.length):(iQ k l i)[i]?=some l[i]:=by
 unfold iQ oK
 rw [List.getElem?_append_right (by simp;omega)]
 simp [Nat.min_eq_left (Nat.le_of_lt h)]
theorem tX {k:Nm} {l:List Pt} {i:Nat} (h:i<l.length):iQ k l (i+1)=if aH l[i]=k then (iQ k l i).set i (agD l[i]) else iQ k l i:=by
 unfold iQ oK
 rw [List.take_succ_eq_append_getElem h,List.map_append]
 have hlen:((l.take i).map λp=>if aH p=k then agD p else p).length=i:=by simp;omega
 split
 ·rename_i e
  rw [List.set_append_right _ _ (by omega),hlen,List.drop_eq_getElem_cons h];simp only [zmp,List.map_nil,zp e,Nat.sub_self,List.set_cons_zero,List.append_assoc,List.cons_append,List.nil_append]
 ·rename_i e
  rw [List.drop_eq_getElem_cons h];simp [e]
def aHB (st:aD) (c:Cl) (k:Nm) (p:PV) (st':aD):Prop:=
 ∃id,p= .agg [(vi (c.kind)),(vi (c.val.kind)),(vi (c.val.n)),(vs (c.val.s)), .vec id 11 0 c.parts.length]/\st'=upd st id (some (.arr 149 ((oK k c.parts).map Pt.cells)))/\st id=none
theorem awI (p:Pt) (d:Dt) (n:Int):aH p=⟨d,n⟩↔((aH p).dot.dev=d.dev/\(aH p).dot.seq=d.seq)/\(aH p).at_=n:=by
 rw [Nm.ext_iff,Dt.ext_iff]
theorem aD4 (c:Cl) (d:Dt) (at_:Int) (st:aD) (hl:c.parts.length<1000000000000):PC Tryz.prog 191 [.agg c.cells, .agg d.cells,(vi (at_))] st (aHB st c ⟨d,at_⟩):=by
 refine pC Tryz.func191 rfl ?_
 (repeat' first|(apply cP;rfl;(apply (wF c.parts _ hl));rintro _ st' (⟨id,rfl,hid,rfl⟩))|apply wZ;rfl|show Cn _;constructor|apply wY;rfl)
 ·have hid:st id=none:=hid
  have e00:iQ ⟨d,at_⟩ c.parts 0=c.parts:=rfl
  refine aC (X:={x:Nat//x<=c.parts.length}) (λi=>((((((((St.nil 34 (upd st id (some (.arr 149 ((iQ ⟨d,at_⟩ c.parts i.1).map Pt.cells))))).pv 2 ((vi (at_)))).var 3 110 ([(vi (c.kind)),(vi (c.val.kind)),(vi (c.val.n)),(vs (c.val.s)), .vec id 11 0 c.parts.length])).var 4 80 (d.cells)).var 6 110 ([(vi (0)),(vi (0)),(vi (0)),(vs (e0)), .val (.slice none 0 0)])).pv 14 (.vec id 11 0 c.parts.length)).pv 15 ((vi ((c.parts.length:Nat))))).pv 16 ((vi ((i.1:Nat)))))) (λi=>c.parts.length-i.1) ⟨0,by omega⟩ ?_ (λi=> ?_)
  ·(repeat' first|show Cn (.t _ _);exact Cn.t0|show Cn _;constructor|exact rfl)
  obtain ⟨i,hi⟩:=i
  dsimp only
  have hf:c.parts.length<=i->iQ ⟨d,at_⟩ c.parts i=oK ⟨d,at_⟩ c.parts:=λh=>by unfold iQ;rw [ztl h,List.drop_eq_nil_of_le h,List.append_nil]
  have hg:=λh:i<c.parts.length=>anO (k:=⟨d,at_⟩) h
  (repeat' first|apply wDx pk;rfl;kernel_rfl;rfl;rfl|(apply Cn.cf;focus ((apply nM);done))|show Cn (.r _ _ _);refine .rr ?_;((have e:=hf (by omega);refine ⟨id,rfl, ?_,hid⟩;show upd st id _=upd st id _;rw [e]));done|((refine ⟨⟨i+1,by omega⟩, ?_,by simp only;omega⟩);(rw [tX ‹_›,zp ((awI _ _ _).2 h)]);focus ((repeat' first|show Cn (.t _ _);exact .any (cQ (by (((simp only [St.pv,St.put,St.sst,St.setv,St.nil,St.var,eF]);(done)))))|show Cn _;constructor|exact rfl);done))|((refine ⟨⟨i+1,by omega⟩, ?_,by simp only;omega⟩);(rw [tX ‹_›,zn (λq=>by have:=(awI _ _ _).1 q;exact h this.1.1 this.1.2 this.2)]);focus ((repeat' first|show Cn (.t _ _);exact Cn.t0|show Cn _;constructor|exact rfl);done))|apply wZ;rfl|show Cn _;constructor|apply ldL pk Pt.elem (a:=(c.parts[i]'‹_›));rfl;rfl;rotate_left;rfl;(exact aA _ _ _);(intro _;exact (hg ‹_›));rfl|apply ixA pk;(iterate 5 rfl);rotate_left;rfl;(intro hw;(exact (show _=((i:Nat):Int) from by omega)));(intro hw;(omega));rfl;(exact Nat.zero_add _)|apply stF pk (f:=Pt.cells) (c.parts[i]'‹_›) (agD (c.parts[i]'‹_›));rfl;rfl;exact aA _ _ _;rfl;exact (hg ‹_›);rfl;rfl|apply wY;rfl|omega|(intro h;simp at h))
theorem erase_spec (c:Cl) (d:Dt) (at_:Int) (hl:c.parts.length<1000000000000):PF Tryz.prog 191 [.agg c.cells, .agg d.cells,(vi (at_))] (.agg (eraseP c ⟨d,at_⟩).cells):=λst=>
 fS (sz:=11) (aD4 c d at_ st hl) λp st' h=>by
  obtain ⟨id,rfl,rfl,h3⟩:=h
  refine .inl ⟨id,149,(oK ⟨d,at_⟩ c.parts).map Pt.cells,_,st,aA _ _ _,apI, .agg (.cons .refl (.cons .refl (.cons .refl (.cons .refl (.cons ?_ .nil))))),cF h3,rfl,rfl⟩
  have e:((oK ⟨d,at_⟩ c.parts).map Pt.cells).length=c.parts.length:=by simp [oK]
  rw [<-e];exact .all
def wrF (d:Dt) (t:Int):List Pt->Int->Int
 |[],n=>n
 |p::r,n=>if p.dot≠d then wrF d t r n else if p.time≠t then-1 else wrF d t r (max n (p.at_+1))
def dB (c:Cl) (w:Sp):Int:=if withinB w.time 1 1125899906842624=true/\mayN ⟨⟨w.dev,w.seq⟩,0⟩=true then wrF ⟨w.dev,w.seq⟩ w.time c.parts 0 else-1
theorem aDg {d:Dt} {t n:Int} {l:List Pt} {i:Nat} (h:i<l.length):wrF d t (l.drop i) n=if l[i].dot≠d then wrF d t (l.drop (i+1)) n else if l[i].time≠t then-1 else wrF d t (l.drop (i+1)) (max n (l[i].at_+1)):=by
 rw [List.drop_eq_getElem_cons h];rfl
theorem ajR (c:Cl) (w:Sp) (hl:c.parts.length<1000000000000) (hf:∀p∈c.parts,bV p=true):PF Tryz.prog 251 [.agg c.cells, .agg w.cells] (vi (dB c w)):=by
 refine pF Tryz.func251 rfl (λst=> ?_)
 (repeat' first|apply wZ;rfl|show Cn _;constructor|exact rfl|((first|apply qK|apply (gK ⟨⟨w.dev,w.seq⟩,0⟩)))|show (_:PV)=_;(rw [dB,zn (by grind)]);done|apply wY;rfl|(intro h;simp at h))
 have hok:withinB w.time 1 1125899906842624=true/\mayN ⟨⟨w.dev,w.seq⟩,0⟩=true:=by grind
 refine aC (X:={x:Nat×Int//x.1<=c.parts.length/\0<=x.2/\x.2<=2000/\wrF ⟨w.dev,w.seq⟩ w.time (c.parts.drop x.1) x.2=wrF ⟨w.dev,w.seq⟩ w.time c.parts 0}) (λi=>(((((((St.nil 47 st).var 3 30 (w.cells)).var 5 80 ([(vi (w.dev)),(vi (w.seq))])).pv 6 ((vi (i.1.2)))).pv 25 (.seq (c.parts.map Pt.cells))).pv 26 ((vi ((c.parts.length:Nat))))).pv 27 ((vi ((i.1.1:Nat)))))) (λi=>c.parts.length-i.1.1) ⟨(0,0),by simp,by simp,by simp,rfl⟩ ?_ (λi=> ?_)
 ·(repeat' first|show Cn _;constructor|exact rfl|simp)
 obtain ⟨⟨i,n⟩,hi,hn0,hn1,hinv⟩:=i
 simp only at hi hn0 hn1 hinv
 dsimp only
 have hs:=λh:i<c.parts.length=>aDg (d:=⟨w.dev,w.seq⟩) (t:=w.time) (n:=n) h
 have hb:=λh:i<c.parts.length=>mR (hf _ (zgm h))
 have hd:=λh:i<c.parts.length=>(Dt.ext_iff (c.parts[i]'h).dot ⟨w.dev,w.seq⟩)
 by_cases him:i<c.parts.length
 ·have hs:=hs him
  have hb:=hb him
  have hd:=hd him
  (repeat' first|((first|refine ⟨⟨(i+1,n),by simp only;omega,hn0,hn1,by rw [<-hinv,hs];grind⟩, ?_,by simp only;omega⟩|refine ⟨⟨(i+1,max n ((c.parts[i]'him).at_+1)),by simp only;omega,by simp only;omega,by simp only;omega,by rw [<-hinv,hs];grind⟩, ?_,by simp only;omega⟩);focus ((repeat' first|show Cn _;constructor|exact rfl);done))|apply wZ;rfl|show Cn _;constructor|exact rfl|show (_:PV)=_;(rw [dB,zp hok,<-hinv,hs];grind);done|apply wI;rfl|apply gE;omega|omega|(intro h;simp at h)|intro h)
 ·(repeat' first|apply wZ;rfl|show Cn _;constructor|exact rfl|show (_:PV)=_;(rw [dB,zp hok,<-hinv,List.drop_eq_nil_of_le (by omega)];rfl);done|omega|(intro h;simp at h))
theorem aBY (fid:FuncId) (caps:List PV) (f:Pt->Bool) (l:List Pt) (hl:l.length<4611686018427387904) (hf:∀p,PF Tryz.prog fid ([.agg p.cells]++caps) (vb (f p))):PF Tryz.prog 301 [.seq (l.map Pt.cells), .fn fid caps] (vi (match l.findIdx? f with|some k=>((k:Nat):Int)|none=> -1)):=by
 refine pF Tryz.func301 rfl (λst=> ?_)
 (repeat' first|apply wZ;rfl|show Cn _;constructor)
 refine aC (X:={x:Nat//x<=l.length/\∀j (h:j<x) (h2:j<l.length),f l[j]=false}) (λi=>(((((St.nil 19 st).pv 0 (.seq (l.map Pt.cells))).pv 1 (.fn fid caps)).pv 7 ((vi ((((l.map Pt.cells)).length:Nat))))).pv 8 ((vi ((i.1:Nat)))))) (λi=>l.length-i.1) ⟨0,by omega,by omega⟩ ?_ (λi=> ?_)
 ·(repeat' first|show Cn _;constructor|exact rfl)
 obtain ⟨i,hi,hinv⟩:=i
 dsimp only
 (repeat' first|(refine ⟨⟨i+1,by omega,λj h1 h2=>by rcases zls.1 h1 with q|q;exact hinv j q h2;subst q;assumption⟩, ?_, ?_⟩)|apply wZ;rfl|show Cn _;constructor|exact rfl|(apply hf)|show (_:PV)=_;(first|rw [nX ‹_› ‹_› hinv];done|rw [nG ‹_› hinv]);done|apply wY;rfl|apply wI;rfl|apply gE;omega|omega|simp only [zql];omega|(intro h;simp at h)|intro h)
def eQ (c:Cl) (w:Sp) (up:Nm):Int:=if up=Nm.zero then 0 else match c.parts.findIdx? (λp=>decide (aH p=up)) with
 |none=>4
 |some k=>match c.parts[k]? with
  |none=>4
  |some p=>if bJ p≠w/\jP (bJ p) w=false then 14 else 0
theorem aEe (up:Nm) (p:Pt):PF Tryz.prog 302 ([.agg p.cells]++[.rp up.cells]) (vb (decide (aH p=up))):=by
 refine pF Tryz.func302 rfl (λst=> ?_)
 (repeat' first|apply wZ;rfl|show Cn _;constructor|exact rfl|apply KR.mk;kernel_rfl|(apply nM)|show (_:PV)=_;(rw [Dt.eqb,Nm.eqb]);done|apply wY;rfl)
theorem akW (c:Cl) (w:Sp) (up:Nm) (hl:c.parts.length<1000000000000):PF Tryz.prog 252 [.agg c.cells, .agg w.cells, .agg up.cells] (vi (eQ c w up)):=by
 have hz:up=Nm.zero↔(up.dot.dev=0/\up.dot.seq=0)/\up.at_=0:=by rw [Nm.ext_iff,Dt.ext_iff];rfl
 have hx:=aBY _ _ (λp=>decide (aH p=up)) c.parts (by omega) (aEe up)
 cases hI:c.parts.findIdx? (λp=>decide (aH p=up)) with
 |none=>
  rw [hI] at hx
  refine pF Tryz.func252 rfl (λst=> ?_)
  (repeat' first|apply wZ;rfl|show Cn _;constructor|exact rfl|(apply hx)|show (_:PV)=_;(first|rw [eQ,zp (hz.2 h)];done|(rw [eQ,zn (λq=>by have:=hz.1 q;grind),hI]));done|apply aY 5;rfl;rfl|apply wY;rfl|(intro h;simp at h))
 |some k=>
  rw [hI] at hx
  obtain ⟨hk,hk1,hk2⟩:=List.findIdx?_eq_some_iff_getElem.1 hI
  have hS:=Sp.ext_iff (bJ c.parts[k]) w
  have hbe:up≠Nm.zero->eQ c w up=if bJ c.parts[k]≠w/\jP (bJ c.parts[k]) w=false then 14 else 0:=λh=>by
   rw [eQ,zn h,hI];simp only [zgg hk]
  refine pF Tryz.func252 rfl (λst=> ?_)
  (repeat' first|apply wZ;rfl|show Cn _;constructor|exact rfl|((first|apply hx|apply (kV (c.parts[k]'hk))|apply (mN (bJ (c.parts[k]'hk)) w)))|show (_:PV)=_;(first|rw [eQ,zp (hz.2 h)];done|(rw [hbe (λq=>by have:=hz.1 q;grind)];grind));done|apply aY 5;rfl;rfl|apply wY;rfl|apply wI;rfl|apply gE;omega|(intro h;simp at h))
def tyF (w:Sp):List UInt8->Int->Nm->List Pt
 |[],_,_=>[]
 |b::r,n,up=>⟨⟨1,(b.toNat:Int),e0⟩,⟨w.dev,w.seq⟩,n,w.time,up.dot,up.at_,false⟩::tyF w r (n+1) ⟨⟨w.dev,w.seq⟩,n⟩
def typeP (c:Cl) (s:ByteArray) (w:Sp) (up:Nm):Cl×Int:=
 if rightP c≠0 then (Cl.zero,rightP c)
 else if dB c w<0 then (Cl.zero,1)
 else if 200<s.size\/2000<c.parts.length+s.size\/2000<dB c w+s.size then (Cl.zero,2)
 else if eQ c w up≠0 then (Cl.zero,eQ c w up)
 else ({c with parts:=dE (c.parts++tyF w s.data.toList (dB c w) up)},0)
theorem zL {d:Dt} {t:Int}:∀{l:List Pt} {n:Int},(∀p∈l,bV p=true)->0<=n->n<=2000-> -1<=wrF d t l n/\wrF d t l n<=2000
 |[],n,_,h1,h2=>by simp only [wrF];omega
 |p::r,n,hf,h1,h2=>by
  have hp:=mR (hf p (by simp))
  have hr:∀q∈r,bV q=true:=λq hq=>hf q (by simp [hq])
  simp only [wrF]
  split
  ·exact zL hr h1 h2
  ·split
   ·omega
   ·exact zL hr (by omega) (by omega)
theorem agU {c:Cl} {w:Sp} (hf:∀p∈c.parts,bV p=true): -1<=dB c w/\dB c w<=2000:=by
 unfold dB
 split
 ·exact zL hf (by omega) (by omega)
 ·omega
def upI (w:Sp) (n:Int) (up:Nm) (i:Nat):Nm:=if i=0 then up else ⟨⟨w.dev,w.seq⟩,n+i-1⟩
def tyE (w:Sp) (n:Int) (up:Nm) (i:Nat) (b:UInt8):Pt:=⟨⟨1,(b.toNat:Int),e0⟩,⟨w.dev,w.seq⟩,n+i,w.time,(upI w n up i).dot,(upI w n up i).at_,false⟩
theorem avV (w:Sp):∀(bs:List UInt8) (n:Int) (up:Nm) (i:Nat) (b:UInt8),bs[i]?=some b->(tyF w bs n up)[i]?=some (tyE w n up i b)
 |[],_,_,_,_,h=>by simp at h
 |c::bs,n,up,0,b,h=>by
  simp at h;subst h
  simp [tyF,upI,tyE]
 |c::bs,n,up,i+1,b,h=>by
  rw [List.getElem?_cons_succ] at h
  have:=avV w bs (n+1) ⟨⟨w.dev,w.seq⟩,n⟩ i b h
  rw [tyF,List.getElem?_cons_succ,this]
  have e:upI w (n+1) ⟨⟨w.dev,w.seq⟩,n⟩ i=upI w n up (i+1):=by
   unfold upI
   by_cases hi:i=0
   ·subst hi;simp
   ·rw [zn hi,zn (by omega)];congr 1;omega
  rw [tyE,tyE,e];congr 2;omega
theorem zI (w:Sp):∀(bs:List UInt8) (n:Int) (up:Nm),(tyF w bs n up).length=bs.length
 |[],_,_=>rfl
 |c::bs,n,up=>by rw [tyF,zlc,zI w bs];rfl
theorem aHY (w:Sp) (n:Int) (up:Nm) (i:Nat) (b:UInt8):PF Tryz.prog 253 [.agg [(vi (1)),(vi ((b.toNat:Int))),(vs (e0)),(vi (w.dev)),(vi (w.seq)),(vi (n+i)),(vi (w.time)),(vi ((upI w n up i).dot.dev)),(vi ((upI w n up i).dot.seq)),(vi ((upI w n up i).at_)),(vb (false))]] (.agg [(vi (w.dev)),(vi (w.seq)),(vi (n+i))]):=nM (tyE w n up i b)
theorem type_spec (c:Cl) (s:ByteArray) (w:Sp) (d:Dt) (at_:Int) (hl:c.parts.length<1000000000000) (hs:s.size<1000000):PF Tryz.prog 189 [.agg c.cells,(vs (s)), .agg w.cells, .agg d.cells,(vi (at_))] (.tup [.agg (typeP c s w ⟨d,at_⟩).1.cells,(vi ((typeP c s w ⟨d,at_⟩).2))]):=by
 intro st
 by_cases hr:rightP c=0
 ·have hW:=(jS hr).2.2.1
  have hwr:=agU (c:=c) (w:=w) hW.formed
  have hr0:=hr
  obtain ⟨tyL,htl⟩:∃t,tyF w s.data.toList (dB c w) ⟨d,at_⟩=t:=⟨_,rfl⟩
  have hty0:tyL.length=s.size:=by rw [<-htl,zI];rfl
  refine pC Tryz.func189 rfl ?_
  (repeat' first|(apply Cn.cf;focus (((first|apply (right_spec c (by omega))|apply (ajR c w hl hW.formed)|apply (akW c w ⟨d,at_⟩ hl)));done))|(apply cP;rfl;(apply (wF c.parts _ hl));rintro _ st' (⟨id,rfl,hid,rfl⟩))|(show Cn (.r _ _ _);refine .any ?_;((refine ⟨_,_,_,rfl,zwf _,zsr _, ?_,rfl⟩;(((first|have e:typeP c s w ⟨d,at_⟩=(Cl.zero,1):=(by unfold typeP;grind);rw [e];rfl|have e:typeP c s w ⟨d,at_⟩=(Cl.zero,2):=(by unfold typeP;grind);rw [e];rfl|have e:typeP c s w ⟨d,at_⟩=(Cl.zero,eQ c w ⟨d,at_⟩):=(by unfold typeP;grind);rw [e];rfl);done)))))|apply wZ;rfl|show Cn _;constructor|apply wY;rfl|omega|simp only [zql];omega|(intro h;simp at h)|intro h)
  ·have hid:st id=none:=hid
   refine aC (X:={x:Nat×Nat//x.1<=s.size/\st x.2=none}) (λi=>((((((((((St.nil 103 (upd st i.1.2 (some (.arr 149 ((c.parts++tyL.take i.1.1).map Pt.cells))))).pv 1 ((vs (s)))).var 5 110 (c.cells)).var 7 30 (w.cells)).var 10 110 ([(vi (0)),(vi (0)),(vi (0)),(vs (e0)), .val (.slice none 0 0)])).pv 13 ((vi (dB c w)))).var 14 303 ([(vi ((upI w (dB c w) ⟨d,at_⟩ i.1.1).dot.dev)),(vi ((upI w (dB c w) ⟨d,at_⟩ i.1.1).dot.seq)),(vi ((upI w (dB c w) ⟨d,at_⟩ i.1.1).at_))])).pv 16 (.vec i.1.2 11 0 (c.parts.length+i.1.1))).pv 68 ((vi ((s.size:Nat))))).pv 69 ((vi ((i.1.1:Nat)))))) (λi=>s.size-i.1.1) ⟨(0,id),by simp,hid⟩ ?_ (λi=> ?_)
   ·dsimp only
    rw [List.take_zero,List.append_nil]
    (repeat' first|show Cn (.t _ _);exact Cn.t0|show Cn _;constructor|exact rfl)
   obtain ⟨⟨i,id⟩,hi,hid⟩:=i
   simp only at hi hid
   dsimp only
   have hlen:(c.parts++tyL.take i).length=c.parts.length+i:=by rw [zla,zlt];omega
   have hlen2:((c.parts++tyL.take i).map Pt.cells).length=c.parts.length+i:=by rw [zql,hlen]
   by_cases him:i<s.size
   ·have hb:s[i]?=some s[i]:=getElem?_pos s i him
    have hp:=avV w s.data.toList (dB c w) ⟨d,at_⟩ i s[i] (by rw [<-hb];simp [him];rfl)
    rw [htl] at hp
    have hsplit:tyL.take (i+1)=tyL.take i++[tyE w (dB c w) ⟨d,at_⟩ i s[i]]:=by rw [List.take_add_one,hp];rfl
    (repeat' first|apply wDx pk;rfl;kernel_rfl;rfl;rfl|(apply Cn.cf;focus ((apply (aHY w (dB c w) ⟨d,at_⟩ i s[i]));done))|refine ⟨⟨(i+1,id'),by simp only;omega,iL hid'⟩, ?_, ?_⟩;((dsimp only;rw [hsplit,<-List.append_assoc]))|show Cn (.t _ _);exact .any (bP ‹_›)|apply wZ;rfl|show Cn _;constructor|exact rfl|show _=_;((focus (simp [upI];omega)))|(apply apV pk (f:=Pt.cells) [tyE w (dB c w) ⟨d,at_⟩ i s[i]] 96;(iterate 9 rfl);(exact aA _ _ _);(omega);exact λ_=>rfl;exact λ_=>rfl;exact aaD;((focus (simp;omega)));((focus (simp;omega)));rfl;intro id' hid')|apply cvA pk.htt;(iterate 5 rfl);(refine ⟨?_, ?_⟩<;>(first|omega|have q:=(s[i]'him).toNat_lt;omega));rfl|apply sxA pk.htt i s[i];(iterate 6 rfl);exact hb;rfl|apply wY;rfl|omega|simp only [zql];omega|(intro h;simp at h))
   ·have hfin:tyL.take i=tyL:=ztl (by omega)
    rw [hfin]
    have hty:typeP c s w ⟨d,at_⟩=({c with parts:=dE (c.parts++tyL)},0):=by
     unfold typeP;rw [zn (by omega),zn (by omega),zn (by omega),zn (by omega),<-htl]
    (repeat' first|refine Cn.any ⟨_,_,st,rfl,zwr _,aR (aR (zsr _) hid) hid, ?_,rfl⟩;rw [hty];rfl|(apply Cn.cf;focus ((apply (acC (c.parts++tyL) (by rw [hfin] at hlen;omega)));done))|apply wZ;rfl|show Cn _;constructor|apply aGn 99;rfl;exact aA _ _ _;(rw [hfin] at hlen2;exact hlen2);exact apI|apply wY;rfl|omega|(intro h;simp at h))
 ·refine pC Tryz.func189 rfl ?_
  (repeat' first|show Cn (.r _ _ _);refine .any ?_;((refine ⟨_,_,_,rfl,zwf _,zsr _, ?_,rfl⟩;(((have e:typeP c s w ⟨d,at_⟩=(Cl.zero,rightP c):=(by unfold typeP;rw [zp hr]);rw [e];rfl);done))))|apply wZ;rfl|show Cn _;constructor|(apply (right_spec c (by omega)))|apply wY;rfl|omega|intro h)
end Go.Proofs.YtfablfldonhkiaaGreatDoor.T
namespace Go.Proofs.YtfablfldonhkiaaGreatDoor
open Go Go.Abs
attribute [local irreducible] Ev PWp
set_option maxRecDepth 10000
set_option maxHeartbeats 4000000
def dH (xs:List Pt) (i:Nat) (ys:List Pt):List Pt:=xs.take i++ys++xs.drop i
theorem akT (xs:List Pt) (i:Nat) (ys:List Pt):(dH xs i ys).map Pt.cells=(xs.map Pt.cells).take i++ys.map Pt.cells++(xs.map Pt.cells).drop i:=by
 unfold dH
 rw [List.map_append,List.map_append,List.map_take,List.map_drop]
theorem alT {xs:List Pt} {i:Nat} {ys:List Pt} (hi:i<=xs.length):(dH xs i ys).length=xs.length+ys.length:=by
 unfold dH
 simp only [zla,zlt,zld];omega
def aG3 (st:aD) (id:Nat) (zs:List Pt) (r:PV) (S:aD):Prop:=∃id',r= .vec id' 11 0 zs.length/\upd st id none id'=none/\S=upd (upd st id none) id' (some (.arr 149 (zs.map Pt.cells)))
theorem ajE (xs ys:List Pt) (i id n:Nat) (st:aD) (hst:st id=some (.arr 149 (xs.map Pt.cells))) (hn:xs.length=n) (hi:i<=n) (hy:ys≠[]) (hl:n+ys.length<1000000000000):PC Tryz.prog 245 [.vec id 11 0 n,(vi ((i:Nat))), .seq (ys.map Pt.cells)] st (aG3 st id (dH xs i ys)):=by
 obtain ⟨m,hm⟩:∃m,ys.length=m:=⟨_,rfl⟩
 have hln:(ys.map Pt.cells).length=m:=(zql _).trans hm
 have hm0:0<m:=by rw [<-hm];exact List.length_pos_iff.2 hy
 rw [hm] at hl
 have hzl:(dH xs i ys).length=n+m:=by rw [alT (by omega),hn,hm]
 have hzm:=akT xs i ys
 have hB:=uS
 refine pC Tryz.func245 rfl ?_
 by_cases hin:i=n
 ·subst hin
  have hz:dH xs i ys=xs++ys:=by unfold dH;rw [ztl (by omega),List.drop_of_length_le (by omega),List.append_nil]
  (repeat' first|show Cn (.r _ _ _);refine .rr ?_;(exact ⟨id',(by rw [hzl,hm]),jC hid',(by rw [hz];rfl)⟩);done|apply wZ;rfl|show Cn _;constructor|(apply apV pk (f:=Pt.cells) ys 96;(iterate 9 rfl);(assumption);(omega);exact λ_=>rfl;exact λ_=>rfl;exact hB;(omega);(omega);rfl;intro id' hid')|apply avY pk i i;(iterate 4 rfl);rotate_left;rfl;(intro _;exact aJ rfl rfl);(intro _;exact aW);(intro _;omega);(intro _;omega);rfl|omega|(intro h;simp at h))
 have hlt:i<n:=by omega
 have hxl:(xs.map Pt.cells).length=n:=(zql _).trans hn
 have hX1:∀r∈xs.map Pt.cells,r.all PV.one=true:=λr hr=>by obtain ⟨a,_,rfl⟩:=List.mem_map.1 hr;rfl
 have hX3:∀r∈xs.map Pt.cells,r.length=11:=λr hr=>by obtain ⟨a,_,rfl⟩:=List.mem_map.1 hr;rfl
 have hY1:∀r∈ys.map Pt.cells,r.all PV.one=true:=λr hr=>by obtain ⟨a,_,rfl⟩:=List.mem_map.1 hr;rfl
 have hY3:∀r∈ys.map Pt.cells,r.length=11:=λr hr=>by obtain ⟨a,_,rfl⟩:=List.mem_map.1 hr;rfl
 have hj:∀k,(xs.map Pt.cells++aV k 11).length=n+k:=λk=>by rw [zla,hxl];unfold aV;rw [List.length_replicate]
 generalize hXe:xs.map Pt.cells=X at*
 generalize hYe:ys.map Pt.cells=Y at*
 have hYn:Y≠[]:=λe=>by rw [e] at hln;simp at hln;omega
 obtain ⟨yc,ycs,yr,hYc⟩:∃c cs rest,Y=(c::cs)::rest:=by
  cases hY0:Y with
  |nil=>exact absurd hY0 hYn
  |cons a b=>
   cases ha:a with
   |nil=>have:=hY3 a (by rw [hY0];simp);rw [ha] at this;cases this
   |cons c cs=>exact ⟨c,cs,b,rfl⟩
 refine tF 0 m (id:=id) (rows:=X) rfl hst rH hxl (by omega) (by omega) (λk id1 hk hid1=> ?_) (λid1 hid1=> ?_)
 ·have hid1:st id1=none:=hid1
  have htk:(X++aV k 11).take i=X.take i:=List.take_append_of_le_length (by omega)
  have hgl:(X.take i++aV (n+m-i) 11).length=n+m:=by rw [zla,zlt];unfold aV;rw [List.length_replicate];omega
  have hg2:(aP (X.take i++aV (n+m-i) 11) i Y).length=n+m:=by rw [dF (by omega),hgl]
  have hgr:aP (aP (X.take i++aV (n+m-i) 11) i Y) (i+m) (X.drop i)=(dH xs i ys).map Pt.cells:=by rw [hzm];rw [<-hxl];exact tP hln (by omega)
  (repeat' first|(refine Cn.any ⟨_,_,upd (upd st id none) id2 (some (.arr 149 ((dH xs i ys).map Pt.cells))),rfl,zwr _,nO (by rw [hgr]) hid1,id2,(by rw [hzl];congr 1;omega),lP hid2,rfl⟩)|apply wD pk [8] [];kernel_rfl;rfl;rfl|apply wZ;rfl|show Cn _;constructor|(refine ajG pk (rows:=X++aV k 11) rfl rfl rfl rfl (.inr (aA _ _ _)) (by rw [hj];omega) rfl (λc hc1 hc2=> ?_);have hc3:=hc2 (aA _ _ _);rw [hj] at hc3)|apply yD pk (j:=i) (rows:=X++aV k 11);(iterate 4 rfl);rotate_left;rfl;rfl;exact .inr (aA _ _ _);(rw [hj];omega);exact aJ rfl rfl;(rw [hj];omega)|(refine apZ pk (kq:= .i64) (kn:= .i64) (i:=i) (m:=n+m-i) (sz:=11) (rows:=X++aV k 11) 96 rfl (congrArg (λz=>some (PV.val (.int .i64 z))) (show _=((n+m-i:Nat):Int) from by omega)) rfl (by kernel_rfl) rfl rfl rfl rfl (aA _ _ _) (by rw [hj];omega) (by rw [hj];omega) (by rw [hj];omega) hB (by omega) (by omega) (by omega) rfl (λid2 hid2=> ?_);rw [htk];have hne:id1≠id2:=(λe=>by rw [<-e] at hid2;have hid2:=(aA _ _ _).symm.trans hid2;cases hid2))|apply eC pk (i) (n+m-i);(iterate 4 rfl);rotate_left;rfl;(intro _;exact ⟨_,aJ rfl rfl,by omega⟩);(intro _;exact ⟨_,aW,by omega⟩);(intro _;omega);(intro _;omega);rfl|apply eC pk (i+m) (n-i);(iterate 4 rfl);rotate_left;rfl;(intro _;exact ⟨_,aJ rfl (show _=((i+m:Nat):Int) from by omega),by omega⟩);(intro _;exact ⟨_,aW,by omega⟩);(intro _;omega);(intro _;omega);rfl|apply eC pk (i) (n-i);(iterate 4 rfl);rotate_left;rfl;(intro _;exact ⟨_,aJ rfl rfl,by omega⟩);(intro _;exact ⟨_,aW,by omega⟩);(intro _;omega);(intro _;omega);rfl|(refine jO pk (e:=149) (sz:=11) (rows:=X.take i++aV (n+m-i) 11) (new:=Y) (m:=Y.length) (n:=Y.length) (len:=n+m-i) rfl rfl rfl rfl rfl (aA _ _ _) (by omega) (qN aQ rfl rfl rfl hY3 hY1) rfl hY3 (by omega) (by omega) rfl ?_)|(refine jO pk (e:=149) (sz:=11) (rows:=aP (X.take i++aV (n+m-i) 11) i Y) (new:=X.drop i) (m:=n-i) (n:=n-i) (len:=n-i) rfl rfl rfl rfl rfl (aA _ _ _) (by omega) (lO (k:=k) rfl (.inr ((aB ‹_›).trans ((aB ‹_›).trans (aA _ _ _)))) hxl (by omega) rH hX1 (by omega) (by omega)) (by rw [zld];omega) (λr hr=>hX3 r (List.mem_of_mem_drop hr)) (by omega) (by omega) rfl ?_)|omega|(intro h;simp at h)|intro h)
 ·have hid1:st id1=none:=hid1
  have hg2:(aP (X++aV m 11) (i+m) (X.drop i)).length=n+m:=by rw [dF (by rw [zld,hj];omega),hj]
  have hgr:aP (aP (X++aV m 11) (i+m) (X.drop i)) i Y=(dH xs i ys).map Pt.cells:=by rw [hzm];exact uI hln (by omega)
  (repeat' first|(refine Cn.any ⟨_,_,upd (upd st id none) id1 (some (.arr 149 ((dH xs i ys).map Pt.cells))),rfl,zwr _,nN (by rw [hgr]),id1,(by rw [hzl]),jC hid1,rfl⟩)|apply wD pk [8] [];kernel_rfl;rfl;rfl|apply wZ;rfl|show Cn _;constructor|apply eC pk (i) (n-i);(iterate 4 rfl);rotate_left;rfl;(intro _;exact ⟨_,aJ rfl rfl,by omega⟩);(intro _;exact ⟨_,aW,by omega⟩);(intro _;omega);(intro _;omega);rfl|apply eC pk (i) (n+m-i);(iterate 4 rfl);rotate_left;rfl;(intro _;exact ⟨_,aJ rfl rfl,by omega⟩);(intro _;exact ⟨_,aW,by omega⟩);(intro _;omega);(intro _;omega);rfl|apply eC pk (i+m) (n-i);(iterate 4 rfl);rotate_left;rfl;(intro _;exact ⟨_,aJ rfl (show _=((i+m:Nat):Int) from by omega),by omega⟩);(intro _;exact ⟨_,aW,by omega⟩);(intro _;omega);(intro _;omega);rfl|(refine ajG pk (rows:=X++aV m 11) rfl rfl rfl rfl (.inl (aA _ _ _)) (by rw [hj];omega) rfl (λc hc1 hc2=> ?_);rw [hj] at hc1)|apply yD pk (j:=n+m) (rows:=X++aV m 11);(iterate 4 rfl);rotate_left;rfl;rfl;exact .inl (aA _ _ _);(rw [hj];omega);exact aJ rfl (show _=((n+m:Nat):Int) from by omega);(rw [hj];omega)|(refine ovA pk (w:=true) (tS:=108) (tR:=4) (off:=i+m) (len:=n-i) (e:=149) (sz:=11) (rows:=X++aV m 11) rfl rfl Tryz.func296 (by kernel_rfl) (by kernel_rfl) (by kernel_rfl) (by kernel_rfl) rfl rfl rfl hYc rfl (.inl (aA _ _ _)) (by rw [hj];omega) rH (by omega) ?_ rfl rfl ?_;rotate_left)|(refine jO pk (e:=149) (sz:=11) (rows:=X++aV m 11) (new:=X.drop i) (m:=n+m-i) (n:=n-i) (len:=n-i) rfl rfl rfl rfl rfl (aA _ _ _) (by rw [hj];omega) (lO (k:=m) rfl (.inl (aA _ _ _)) hxl (by omega) rH hX1 (by omega) (by omega)) (by rw [zld];omega) (λr hr=>hX3 r (List.mem_of_mem_drop hr)) (by omega) (by omega) rfl ?_)|(refine jO pk (e:=149) (sz:=11) (rows:=aP (X++aV m 11) (i+m) (X.drop i)) (new:=Y) (m:=Y.length) (n:=Y.length) (len:=n+m-i) rfl rfl rfl rfl rfl (aA _ _ _) (by omega) (qN aQ rfl rfl rfl hY3 hY1) rfl hY3 (by omega) (by omega) rfl ?_)|omega|(intro h;simp at h)|intro h)
end Go.Proofs.YtfablfldonhkiaaGreatDoor
