import Derived.Test.YtloecjjehapblaaGreatDoorOpAs
import Derived.Test.YtloecjjehapblaaGreatDoorOpAh
import Derived.Test.YtloecjjehapblaaGreatDoorOpAa
import Derived.Test.YtloecjjehapblaaGreatDoorOpAr
set_option linter.unusedSimpArgs false
set_option linter.unusedVariables false
namespace Go.Proofs.YtloecjjehapblaaGreatDoor
open Go Go.Abs
attribute [local irreducible] Ev PWp
set_option maxRecDepth 10000
set_option maxHeartbeats 4000000
structure ScG (s:Sc):Prop where
 l:s.length<200000000000000
 b:ScB s
 k:∀t∈s,oT t
end Go.Proofs.YtloecjjehapblaaGreatDoor
namespace Go.Proofs.YtloecjjehapblaaGreatDoor
open Go Go.Abs Go.ChangeShapes Go.WideShapes Go.ChangeAt Go.RowKit
set_option maxRecDepth 10000
theorem aF5 {N n:Nat} {ps:List PV} (h:bI Tryz.prog N n 136 ps):∃v:Co,ps=v.cells:=by
 obtain ⟨m,pss,_,rfl,h2⟩:=bU aF rfl h
 cases h2 with|cons ha h2=>cases h2 with|cons hb h2=>cases h2 with|cons hc h2=>cases h2 with|cons hd h2=>cases h2 with|nil=>
 obtain ⟨a,rfl,_⟩:=vY aF rfl ha
 obtain ⟨b,rfl,_⟩:=bN aF rfl hb
 obtain ⟨c,rfl,_⟩:=bN aF rfl hc
 obtain ⟨d,rfl⟩:=aaR aF rfl hd
 exact ⟨⟨a,b,c,d⟩,rfl⟩
theorem aD2 {N n t:Nat} {fs:List (TypeId×Nat)} (ht:tiK tt t=some (.struct fs)) {α:Type} {f:α->List PV} (hf:fs.map (·.1)=[3,3,3]) (mk:Int->Int->Int->α) (hm:∀a b c,f (mk a b c)=[(PV.val (Value.int .i64 (a))),(PV.val (Value.int .i64 (b))),(PV.val (Value.int .i64 (c)))]) {ps:List PV} (h:bI Tryz.prog N n t ps):∃v:α,ps=f v:=by
 obtain ⟨m,pss,_,rfl,h2⟩:=bU aF ht h
 rw [hf] at h2
 cases h2 with|cons ha h2=>cases h2 with|cons hb h2=>cases h2 with|cons hc h2=>cases h2 with|nil=>
 obtain ⟨a,rfl,_⟩:=bN aF rfl ha
 obtain ⟨b,rfl,_⟩:=bN aF rfl hb
 obtain ⟨c,rfl,_⟩:=bN aF rfl hc
 exact ⟨mk a b c,(hm a b c).symm⟩
theorem aqV :∀{l:List X.Ex},(∀e∈l,e.ok)->X.Ex.oks l
 |[],_=>by simp [X.Ex.oks]
 |e::l,h=>by
  simp only [X.Ex.oks]
  exact ⟨h e (List.mem_cons_self ..),aqV λx hx=>h x (List.mem_cons_of_mem _ hx)⟩
theorem aGX :∀{n:Nat} {ps:List PV},bI Tryz.prog reachBytes n 88 ps->∃e:X.Ex,ps=e.cells/\e.ok:=by
 intro n
 induction n using Nat.strongRecOn with
 |_ n ih=>
  intro ps h
  obtain ⟨m,pss,hm,rfl,h2⟩:=bU aF rfl h
  cases h2 with|cons ha h2=>cases h2 with|cons hb h2=>cases h2 with|cons hc h2=>cases h2 with|cons hd h2=>cases h2 with|nil=>
  obtain ⟨a,rfl,_⟩:=bN aF rfl ha
  obtain ⟨b,rfl,_⟩:=bN aF rfl hb
  obtain ⟨c,rfl⟩:=ajF hc
  obtain ⟨m',rows,hm',rfl,hl,hr⟩:=cF aF rfl hd
  obtain ⟨l,rfl,hl2,hq⟩:=wQ (f:=X.Ex.cells) λr hr'=>ih m' (by omega) (hr r hr')
  refine ⟨.mk a b c l,by rw [<-X.Ex.rows_map];rfl, ?_⟩
  simp only [X.Ex.ok]
  have h62:reachBytes<2^62:=by decide
  exact ⟨by omega,aqV hq⟩
theorem aGu {n:Nat} {ps:List PV} (h:bI Tryz.prog reachBytes n 121 ps):∃v:Tb,ps=v.cells/\TbB v/\oT v:=by
 obtain ⟨m,pss,_,rfl,h2⟩:=bU aF rfl h
 cases h2 with|cons ha h2=>cases h2 with|cons hb h2=>cases h2 with|cons hc h2=>cases h2 with|cons hd h2=>cases h2 with|cons he h2=>cases h2 with|cons hf h2=>cases h2 with|nil=>
 obtain ⟨a,rfl,_⟩:=vY aF rfl ha
 obtain ⟨_,b,_,rfl,lb,hr⟩:=cF aF rfl hb
 obtain ⟨b,rfl⟩:=qL (f:=Co.cells) λr hr'=>aF5 (hr r hr')
 obtain ⟨_,c,_,rfl,lc,hr⟩:=cF aF rfl hc
 obtain ⟨c,rfl⟩:=qL (f:=I1) λr hr'=>by
  obtain ⟨x,rfl,_⟩:=bN aF rfl (hr r hr');exact ⟨x,rfl⟩
 obtain ⟨_,d,_,rfl,ld,hrd⟩:=cF aF rfl hd
 have hck:∀c∈d,∃e:X.Ex,e.ok/\e.cells=c:=λc hc=>by
  obtain ⟨e,h1,h2⟩:=aGX (hrd c hc)
  exact ⟨e,h2,h1.symm⟩
 obtain ⟨_,e,_,rfl,le,hr⟩:=cF aF rfl he
 obtain ⟨e,rfl⟩:=qL (f:=Fr.cells) λr hr'=>aD2 rfl rfl Fr.mk (λ_ _ _=>rfl) (hr r hr')
 obtain ⟨_,f,_,rfl,lf,hr⟩:=cF aF rfl hf
 obtain ⟨f,rfl⟩:=qL (f:=Su.cells) λr hr'=>aD2 rfl rfl Su.mk (λ_ _ _=>rfl) (hr r hr')
 rw [zql] at lb lc le lf
 have h:=show reachBytes<200000000000000 by decide
 exact ⟨⟨a,b,c,d,e,f⟩,rfl,⟨Nat.lt_of_le_of_lt lb h,Nat.lt_of_le_of_lt lc h,Nat.lt_of_le_of_lt ld h,Nat.lt_of_le_of_lt le h,Nat.lt_of_le_of_lt lf h⟩,hck⟩
theorem aDk :Tryz.prog.bytesOf 121=136:=by kernel_rfl
theorem aGf {n:Nat} {ps:List PV} (h:bI Tryz.prog reachBytes n 24 ps):∃v:{s:Sc//ScG s/\s.length<2000000000000},ps=scC v.1:=by
 obtain ⟨m,pss,_,rfl,h2⟩:=bU aF rfl h
 cases h2 with|cons ha h2=>cases h2 with|nil=>
 obtain ⟨_,c,_,rfl,lc,hr⟩:=aeW aF rfl ha
 obtain ⟨c,rfl,hl,hq⟩:=wQ λr hr'=>aGu (hr r hr')
 rw [aDk,zql] at lc
 have h:reachBytes=140737488351232:=by decide
 exact ⟨⟨c,⟨by omega,λt ht=>(hq t ht).1,λt ht=>(hq t ht).2⟩,by omega⟩,rfl⟩
end Go.Proofs.YtloecjjehapblaaGreatDoor
namespace Go.Proofs.YtloecjjehapblaaGreatDoor
open Go Go.Abs
attribute [local irreducible] Ev PWp
set_option maxRecDepth 10000
set_option maxHeartbeats 4000000
theorem anR (l:List Pt) (st:aJ) (hl:l.length<1000000000000):PC Tryz.prog 318 [.seq (l.map Pt.cells)] st (LR 190 11 st (l.map Pt.cells)):=by
 refine bZ aF Tryz.func318 (by kernel_rfl) rfl rfl rfl rfl ?_
 (try apply wO pk;rfl);(repeat' first|show All _;constructor|apply wC pk;rfl;rfl|apply wE pk;rfl;rfl|refine aA rfl ?_ ?_<;>intro h<;>(try simp at h)<;>try omega|((try refine aC ?_);((refine ⟨_,_,_,rfl,zwr _,zsr _, ?_⟩;((first|exact .inr ⟨rfl,hb h,zsr _⟩|exact .inl ⟨id',by rw [zql],hid',aB _ _ _,cX hid'⟩));done)))|(apply ap0 pk (f:=Pt.cells) l 96;(iterate 10 rfl);exact λ_=>rfl;exact λ_=>rfl;exact tV;(omega);(omega);rfl;intro id' hid')|(apply aAi pk;(iterate 6 rfl);intro b hb))
theorem vD (l:List Pt) (st:aJ) (hl:l.length<1000000000000):PC Tryz.prog 318 [.seq (l.map Pt.cells)] st λp S=>∃id,p= .vec id 11 0 l.length/\st id=none/\S=upd st id (some (.arr 190 (l.map Pt.cells))):=
 vK (aaJ (anR l st hl)) λp st' ⟨id,h1,h2,h3⟩=>⟨p,st',zwr _,zsr _,id,by rw [h1,zql],h2,h3⟩
end Go.Proofs.YtloecjjehapblaaGreatDoor
namespace Go.Proofs.YtloecjjehapblaaGreatDoor.T
open Go Go.Abs
attribute [local irreducible] Ev PWp
set_option maxRecDepth 10000
set_option maxHeartbeats 4000000
def xN (p:Pt):Pt:={p with gone:=true}
def dV (k:Nm) (l:List Pt):List Pt:=l.map λp=>if aM p=k then xN p else p
def eraseP (c:Cl) (k:Nm):Cl:={c with parts:=dV k c.parts}
def iN (k:Nm) (l:List Pt) (i:Nat):List Pt:=dV k (l.take i)++l.drop i
theorem alQ {k:Nm} {l:List Pt} {i:Nat} (h:i<l.length):(iN k l i)[i]?=some l[i]:=by
 unfold iN dV
 rw [List.getElem?_append_right (by simp;omega)]
 simp [Nat.min_eq_left (Nat.le_of_lt h)]
theorem sY {k:Nm} {l:List Pt} {i:Nat} (h:i<l.length):iN k l (i+1)=if aM l[i]=k then (iN k l i).set i (xN l[i]) else iN k l i:=by
 unfold iN dV
 rw [List.take_succ_eq_append_getElem h,List.map_append]
 have hlen:((l.take i).map λp=>if aM p=k then xN p else p).length=i:=by simp;omega
 split
 ·rename_i e
  rw [List.set_append_right _ _ (by omega),hlen,List.drop_eq_getElem_cons h];simp only [List.map_cons,List.map_nil,if_pos e,Nat.sub_self,List.set_cons_zero,List.append_assoc,List.cons_append,List.nil_append]
 ·rename_i e
  rw [List.drop_eq_getElem_cons h];simp [e]
def aE2 (st:aJ) (c:Cl) (k:Nm) (p:PV) (st':aJ):Prop:=
 ∃id,p= .agg [(PV.val (Value.int .i64 (c.kind))),(PV.val (Value.int .i64 (c.val.kind))),(PV.val (Value.int .i64 (c.val.n))),(PV.val (Value.string (c.val.s))), .vec id 11 0 c.parts.length]/\st'=upd st id (some (.arr 190 ((dV k c.parts).map Pt.cells)))/\st id=none
theorem asL (p:Pt) (d:Dt) (n:Int):aM p=⟨d,n⟩↔((aM p).dot.dev=d.dev/\(aM p).dot.seq=d.seq)/\(aM p).at_=n:=by
 rw [Nm.ext_iff,Dt.ext_iff]
theorem aBM (c:Cl) (d:Dt) (at_:Int) (st:aJ) (hl:c.parts.length<1000000000000):PC Tryz.prog 252 [.agg c.cells, .agg d.cells,(PV.val (Value.int .i64 (at_)))] st (aE2 st c ⟨d,at_⟩):=by
 refine bZ aF Tryz.func252 (by kernel_rfl) rfl rfl rfl rfl ?_
 (try apply wO pk;rfl);(repeat' first|show All _;constructor|apply wE pk;rfl;rfl|(apply cB;rfl;rfl;(apply (vD c.parts _ hl)<;>first|exact aB _ _ _|assumption|omega|(fail));rfl;rfl;rfl;intro _ st' hR;obtain ⟨id,rfl,hid,rfl⟩:=hR))
 ·have hid:st id=none:=hid
  have e00:iN ⟨d,at_⟩ c.parts 0=c.parts:=rfl
  refine aK (X:={x:Nat//x<=c.parts.length}) (λi=>((((((((St.nil 34 (upd st id (some (.arr 190 ((iN ⟨d,at_⟩ c.parts i.1).map Pt.cells))))).pv 2 ((PV.val (Value.int .i64 (at_))))).var 3 80 ([(PV.val (Value.int .i64 (c.kind))),(PV.val (Value.int .i64 (c.val.kind))),(PV.val (Value.int .i64 (c.val.n))),(PV.val (Value.string (c.val.s))), .vec id 11 0 c.parts.length])).var 4 59 (d.cells)).var 6 80 ([(PV.val (Value.int .i64 (0))),(PV.val (Value.int .i64 (0))),(PV.val (Value.int .i64 (0))),(PV.val (Value.string (e0))), .val (.slice none 0 0)])).pv 14 (.vec id 11 0 c.parts.length)).pv 15 ((PV.val (Value.int .i64 ((c.parts.length:Nat)))))).pv 16 ((PV.val (Value.int .i64 ((i.1:Nat))))))) (λi=>c.parts.length-i.1) ⟨0,by omega⟩ ?_ (λi=> ?_)
  ·(((repeat (first|refine Sub.pv ?_ rfl|refine Sub.var ?_ rfl rfl));(exact Sub.nil _ _ _ (zsr _) rfl)))
  obtain ⟨i,hi⟩:=i
  dsimp only
  have hf:c.parts.length<=i->iN ⟨d,at_⟩ c.parts i=dV ⟨d,at_⟩ c.parts:=λh=>by unfold iN;rw [List.take_of_length_le h,List.drop_eq_nil_of_le h,List.append_nil]
  have hg:=λh:i<c.parts.length=>alQ (k:=⟨d,at_⟩) h
  (try apply wO pk;rfl);(repeat' first|show All _;constructor|show Imp _ _;constructor|apply wC pk;rfl;rfl|apply wE pk;rfl;rfl|apply wDx pk;rfl;kernel_rfl;rfl;rfl|refine aA rfl ?_ ?_<;>intro h<;>(try simp at h)<;>try omega|(try refine aC ?_);((refine ⟨_,_,_,rfl,zwr _,zsr _, ?_⟩;((have e:=hf (by omega);refine ⟨id,rfl, ?_,hid⟩;show upd st id _=upd st id _;rw [e]));done))|(apply aH;rfl;rfl;rfl;(intro _;apply nB<;>first|assumption|omega);rotate_left;rfl;rfl)|apply ldL pk Pt.elem (a:=(c.parts[i]'‹_›));rfl;rfl;rotate_left;rfl;(exact aB _ _ _);(intro _;exact (hg ‹_›));rfl|apply ixA pk;(iterate 5 rfl);rotate_left;rfl;(intro hw;(exact (show _=((i:Nat):Int) from by omega)));(intro hw;(omega));rfl;(exact Nat.zero_add _)|apply stF pk (f:=Pt.cells) (c.parts[i]'‹_›) (xN (c.parts[i]'‹_›));rfl;rfl;exact aB _ _ _;rfl;exact (hg ‹_›);rfl;rfl|(refine ⟨⟨i+1,by omega⟩, ?_,by simp only;omega⟩;(rw [sY ‹_›,if_pos ((asL _ _ _).2 h)]);(((repeat (first|refine Sub.pv ?_ rfl|refine Sub.var ?_ rfl rfl));(exact Sub.nil _ _ _ (eY (by first|rfl|exact fT ‹_›|((simp only [St.pv,St.put,St.sst,St.setv,St.nil,St.var,fF]);first|done|rfl))) rfl))))|(refine ⟨⟨i+1,by omega⟩, ?_,by simp only;omega⟩;(rw [sY ‹_›,if_neg (λq=>by have:=(asL _ _ _).1 q;exact h this.1.1 this.1.2 this.2)]);(((repeat (first|refine Sub.pv ?_ rfl|refine Sub.var ?_ rfl rfl));(exact Sub.nil _ _ _ (zsr _) rfl))))|intros;(try simp only [zql]);omega)
theorem erase_spec (c:Cl) (d:Dt) (at_:Int) (hl:c.parts.length<1000000000000):PF Tryz.prog 252 [.agg c.cells, .agg d.cells,(PV.val (Value.int .i64 (at_)))] (.agg (eraseP c ⟨d,at_⟩).cells):=λst=>
 gL (sz:=11) (aBM c d at_ st hl) λp st' h=>by
  obtain ⟨id,rfl,rfl,h3⟩:=h
  refine .inl ⟨id,190,(dV ⟨d,at_⟩ c.parts).map Pt.cells,_,st,aB _ _ _,amZ, .agg (.cons .refl (.cons .refl (.cons .refl (.cons .refl (.cons ?_ .nil))))),cX h3,rfl,rfl⟩
  have e:((dV ⟨d,at_⟩ c.parts).map Pt.cells).length=c.parts.length:=by simp [dV]
  rw [<-e];exact .all
def wrF (d:Dt) (t:Int):List Pt->Int->Int
 |[],n=>n
 |p::r,n=>if p.dot≠d then wrF d t r n else if p.time≠t then-1 else wrF d t r (max n (p.at_+1))
def dF (c:Cl) (w:Sp):Int:=if withinB w.time 1 1125899906842624=true/\mayN ⟨⟨w.dev,w.seq⟩,0⟩=true then wrF ⟨w.dev,w.seq⟩ w.time c.parts 0 else-1
theorem aBa {d:Dt} {t n:Int} {l:List Pt} {i:Nat} (h:i<l.length):wrF d t (l.drop i) n=if l[i].dot≠d then wrF d t (l.drop (i+1)) n else if l[i].time≠t then-1 else wrF d t (l.drop (i+1)) (max n (l[i].at_+1)):=by
 rw [List.drop_eq_getElem_cons h];rfl
theorem aiB (c:Cl) (w:Sp) (hl:c.parts.length<1000000000000) (hf:∀p∈c.parts,bT p=true):PF Tryz.prog 321 [.agg c.cells, .agg w.cells] (PV.val (Value.int .i64 (dF c w))):=by
 refine aG aF Tryz.func321 (by kernel_rfl) rfl rfl rfl rfl (λst=> ?_)
 (try apply wO pk;rfl);(repeat' first|show All _;constructor|show Imp _ _;constructor|show ImpX _ _ _ _;constructor|apply wC pk;rfl;rfl|apply wE pk;rfl;rfl|refine aA rfl ?_ ?_<;>intro h<;>(try simp at h)<;>try omega|(refine aC ?_;refine ⟨_,_,_,rfl,zwr _,zsr _, ?_,rfl⟩;try first|rfl|(rw [dF,if_neg (by grind)]);done)|(apply aH;rfl;rfl;rfl;(intro _;(first|apply pS|apply (iR ⟨⟨w.dev,w.seq⟩,0⟩))<;>first|assumption|omega);rotate_left;rfl;rfl))
 have hok:withinB w.time 1 1125899906842624=true/\mayN ⟨⟨w.dev,w.seq⟩,0⟩=true:=by grind
 refine aK (X:={x:Nat×Int//x.1<=c.parts.length/\0<=x.2/\x.2<=2000/\wrF ⟨w.dev,w.seq⟩ w.time (c.parts.drop x.1) x.2=wrF ⟨w.dev,w.seq⟩ w.time c.parts 0}) (λi=>(((((((St.nil 47 st).var 3 47 (w.cells)).var 5 59 ([(PV.val (Value.int .i64 (w.dev))),(PV.val (Value.int .i64 (w.seq)))])).pv 6 ((PV.val (Value.int .i64 (i.1.2))))).pv 25 (.seq (c.parts.map Pt.cells))).pv 26 ((PV.val (Value.int .i64 ((c.parts.length:Nat)))))).pv 27 ((PV.val (Value.int .i64 ((i.1.1:Nat))))))) (λi=>c.parts.length-i.1.1) ⟨(0,0),by simp,by simp,by simp,rfl⟩ ?_ (λi=> ?_)
 ·((repeat (first|refine Sub.pv ?_ rfl|refine Sub.var ?_ rfl rfl|refine Sub.pv' ?_ rfl (by simp)));exact Sub.nil _ _ _ (zsr _) rfl)
 obtain ⟨⟨i,n⟩,hi,hn0,hn1,hinv⟩:=i
 simp only at hi hn0 hn1 hinv
 dsimp only
 have hs:=λh:i<c.parts.length=>aBa (d:=⟨w.dev,w.seq⟩) (t:=w.time) (n:=n) h
 have hb:=λh:i<c.parts.length=>mH (hf _ (zgm h))
 have hd:=λh:i<c.parts.length=>(Dt.ext_iff (c.parts[i]'h).dot ⟨w.dev,w.seq⟩)
 by_cases him:i<c.parts.length
 ·have hs:=hs him
  have hb:=hb him
  have hd:=hd him
  (try apply wO pk;rfl);(repeat' first|show All _;constructor|show Imp _ _;constructor|apply wC pk;rfl;rfl|apply wE pk;rfl;rfl|refine aA rfl ?_ ?_<;>intro h<;>(try simp at h)<;>try omega|(refine aC ?_;refine ⟨_,_,_,rfl,zwr _,zsr _, ?_,rfl⟩;try first|rfl|(rw [dF,if_pos hok,<-hinv,hs];grind);done)|apply aN pk;(iterate 6 rfl);rotate_left;rfl;(intro hw;rfl);(intro hw;apply aI<;>omega);(intro _;rfl);rfl|((first|refine ⟨⟨(i+1,n),by simp only;omega,hn0,hn1,by rw [<-hinv,hs];grind⟩, ?_,by simp only;omega⟩|refine ⟨⟨(i+1,max n ((c.parts[i]'him).at_+1)),by simp only;omega,by simp only;omega,by simp only;omega,by rw [<-hinv,hs];grind⟩, ?_,by simp only;omega⟩);((repeat (first|refine Sub.pv ?_ rfl|refine Sub.var ?_ rfl rfl));exact Sub.nil _ _ _ (zsr _) rfl))|intros;(try simp only [zql]);omega)
 ·(try apply wO pk;rfl);(repeat' first|show All _;constructor|apply wC pk;rfl;rfl|refine aA rfl ?_ ?_<;>intro h<;>(try simp at h)<;>try omega|(refine aC ?_;refine ⟨_,_,_,rfl,zwr _,zsr _, ?_,rfl⟩;try first|rfl|(rw [dF,if_pos hok,<-hinv,List.drop_eq_nil_of_le (by omega)];rfl);done))
theorem azV (fid:FuncId) (caps:List PV) (f:Pt->Bool) (l:List Pt) (hl:l.length<4611686018427387904) (hf:∀p,PF Tryz.prog fid ([.agg p.cells]++caps) (PV.val (Value.bool (f p)))):PF Tryz.prog 372 [.seq (l.map Pt.cells), .fn fid caps] (PV.val (Value.int .i64 (match l.findIdx? f with|some k=>((k:Nat):Int)|none=> -1))):=by
 refine aG aF Tryz.func372 (by kernel_rfl) rfl rfl rfl rfl (λst=> ?_)
 (try apply wO pk;rfl);(repeat' (show All _;constructor))
 refine aK (X:={x:Nat//x<=l.length/\∀j (h:j<x) (h2:j<l.length),f l[j]=false}) (λi=>(((((St.nil 19 st).pv 0 (.seq (l.map Pt.cells))).pv 1 (.fn fid caps)).pv 7 ((PV.val (Value.int .i64 ((((l.map Pt.cells)).length:Nat)))))).pv 8 ((PV.val (Value.int .i64 ((i.1:Nat))))))) (λi=>l.length-i.1) ⟨0,by omega,by omega⟩ ?_ (λi=> ?_)
 ·((repeat refine Sub.pv ?_ rfl);exact Sub.nil _ _ _ (zsr _) rfl)
 obtain ⟨i,hi,hinv⟩:=i
 dsimp only
 (try apply wO pk;rfl);(repeat' first|show All _;constructor|show Imp _ _;constructor|apply wC pk;rfl;rfl|apply wE pk;rfl;rfl|refine aA rfl ?_ ?_<;>intro h<;>(try simp at h)<;>try omega|(refine aC ?_;refine ⟨_,_,_,rfl,zwr _,zsr _, ?_,rfl⟩;try first|rfl|(first|rw [nJ ‹_› ‹_› hinv];done|rw [mW ‹_› hinv]);done)|(apply aH;rfl;rfl;rfl;(intro _;apply hf<;>first|assumption|omega);rotate_left;rfl;rfl)|apply aN pk;(iterate 6 rfl);rotate_left;rfl;(intro hw;rfl);(intro hw;apply aI<;>omega);(intro _;rfl);rfl|refine ⟨⟨i+1,by omega,λj h1 h2=>by rcases Nat.lt_succ_iff_lt_or_eq.1 h1 with q|q;exact hinv j q h2;subst q;assumption⟩, ?_,by simp only;omega⟩;((repeat refine Sub.pv ?_ rfl);exact Sub.nil _ _ _ (zsr _) rfl)|intros;(try simp only [zql]);omega)
def eT (c:Cl) (w:Sp) (up:Nm):Int:=if up=Nm.zero then 0 else match c.parts.findIdx? (λp=>decide (aM p=up)) with
 |none=>4
 |some k=>match c.parts[k]? with
  |none=>4
  |some p=>if bK p≠w/\jL (bK p) w=false then 14 else 0
theorem aBV (up:Nm) (p:Pt):PF Tryz.prog 373 ([.agg p.cells]++[.rp up.cells]) (PV.val (Value.bool (decide (aM p=up)))):=by
 refine aG aF Tryz.func373 (by kernel_rfl) rfl rfl rfl rfl (λst=> ?_)
 (try apply wO pk;rfl);(repeat' first|show All _;constructor|show Imp _ _;constructor|apply wE pk;rfl;rfl|apply wD pk [] [];kernel_rfl;rfl;rfl|(refine aC ?_;refine ⟨_,_,_,rfl,zwr _,zsr _, ?_,rfl⟩;try first|rfl|(rw [Dt.eqb,Nm.eqb]);done)|(apply aH;rfl;rfl;rfl;(intro _;apply nB<;>first|assumption|omega);rotate_left;rfl;rfl))
theorem ajI (c:Cl) (w:Sp) (up:Nm) (hl:c.parts.length<1000000000000):PF Tryz.prog 322 [.agg c.cells, .agg w.cells, .agg up.cells] (PV.val (Value.int .i64 (eT c w up))):=by
 have hz:up=Nm.zero↔(up.dot.dev=0/\up.dot.seq=0)/\up.at_=0:=by rw [Nm.ext_iff,Dt.ext_iff];rfl
 have hx:=azV _ _ (λp=>decide (aM p=up)) c.parts (by omega) (aBV up)
 cases hI:c.parts.findIdx? (λp=>decide (aM p=up)) with
 |none=>
  rw [hI] at hx
  refine aG aF Tryz.func322 (by kernel_rfl) rfl rfl rfl rfl (λst=> ?_)
  (try apply wO pk;rfl);(repeat' first|show All _;constructor|show Imp _ _;constructor|apply wC pk;rfl;rfl|apply wE pk;rfl;rfl|refine aA rfl ?_ ?_<;>intro h<;>(try simp at h)<;>try omega|(refine aC ?_;refine ⟨_,_,_,rfl,zwr _,zsr _, ?_,rfl⟩;try first|rfl|(first|rw [eT,if_pos (hz.2 h)];done|(rw [eT,if_neg (λq=>by have:=hz.1 q;grind),hI]));done)|(apply aH;rfl;rfl;rfl;(intro _;apply hx<;>first|assumption|omega);rotate_left;rfl;rfl)|apply bC 5;rfl;rfl)
 |some k=>
  rw [hI] at hx
  obtain ⟨hk,hk1,hk2⟩:=List.findIdx?_eq_some_iff_getElem.1 hI
  have hS:=Sp.ext_iff (bK c.parts[k]) w
  have hbe:up≠Nm.zero->eT c w up=if bK c.parts[k]≠w/\jL (bK c.parts[k]) w=false then 14 else 0:=λh=>by
   rw [eT,if_neg h,hI];simp only [List.getElem?_eq_getElem hk]
  refine aG aF Tryz.func322 (by kernel_rfl) rfl rfl rfl rfl (λst=> ?_)
  (try apply wO pk;rfl);(repeat' first|show All _;constructor|show Imp _ _;constructor|show ImpX _ _ _ _;constructor|apply wC pk;rfl;rfl|apply wE pk;rfl;rfl|refine aA rfl ?_ ?_<;>intro h<;>(try simp at h)<;>try omega|(refine aC ?_;refine ⟨_,_,_,rfl,zwr _,zsr _, ?_,rfl⟩;try first|rfl|(first|rw [eT,if_pos (hz.2 h)];done|(rw [hbe (λq=>by have:=hz.1 q;grind)];grind));done)|(apply aH;rfl;rfl;rfl;(intro _;(first|apply hx|apply (kU (c.parts[k]'hk))|apply (mD (bK (c.parts[k]'hk)) w))<;>first|assumption|omega);rotate_left;rfl;rfl)|apply aN pk;(iterate 6 rfl);rotate_left;rfl;(intro hw;rfl);(intro hw;apply aI<;>omega);(intro _;rfl);rfl|apply bC 5;rfl;rfl)
def tyF (w:Sp):List UInt8->Int->Nm->List Pt
 |[],_,_=>[]
 |b::r,n,up=>⟨⟨1,(b.toNat:Int),e0⟩,⟨w.dev,w.seq⟩,n,w.time,up.dot,up.at_,false⟩::tyF w r (n+1) ⟨⟨w.dev,w.seq⟩,n⟩
def typeP (c:Cl) (s:ByteArray) (w:Sp) (up:Nm):Cl×Int:=
 if rightP c≠0 then (Cl.zero,rightP c)
 else if dF c w<0 then (Cl.zero,1)
 else if 200<s.size\/2000<c.parts.length+s.size\/2000<dF c w+s.size then (Cl.zero,2)
 else if eT c w up≠0 then (Cl.zero,eT c w up)
 else ({c with parts:=dH (c.parts++tyF w s.data.toList (dF c w) up)},0)
theorem yO {d:Dt} {t:Int}:∀{l:List Pt} {n:Int},(∀p∈l,bT p=true)->0<=n->n<=2000-> -1<=wrF d t l n/\wrF d t l n<=2000
 |[],n,_,h1,h2=>by simp only [wrF];omega
 |p::r,n,hf,h1,h2=>by
  have hp:=mH (hf p (by simp))
  have hr:∀q∈r,bT q=true:=λq hq=>hf q (by simp [hq])
  simp only [wrF]
  split
  ·exact yO hr h1 h2
  ·split
   ·omega
   ·exact yO hr (by omega) (by omega)
theorem afH {c:Cl} {w:Sp} (hf:∀p∈c.parts,bT p=true): -1<=dF c w/\dF c w<=2000:=by
 unfold dF
 split
 ·exact yO hf (by omega) (by omega)
 ·omega
def upI (w:Sp) (n:Int) (up:Nm) (i:Nat):Nm:=if i=0 then up else ⟨⟨w.dev,w.seq⟩,n+i-1⟩
def tyE (w:Sp) (n:Int) (up:Nm) (i:Nat) (b:UInt8):Pt:=⟨⟨1,(b.toNat:Int),e0⟩,⟨w.dev,w.seq⟩,n+i,w.time,(upI w n up i).dot,(upI w n up i).at_,false⟩
theorem asA (w:Sp):∀(bs:List UInt8) (n:Int) (up:Nm) (i:Nat) (b:UInt8),bs[i]?=some b->(tyF w bs n up)[i]?=some (tyE w n up i b)
 |[],_,_,_,_,h=>by simp at h
 |c::bs,n,up,0,b,h=>by
  simp at h;subst h
  simp [tyF,upI,tyE]
 |c::bs,n,up,i+1,b,h=>by
  rw [List.getElem?_cons_succ] at h
  have:=asA w bs (n+1) ⟨⟨w.dev,w.seq⟩,n⟩ i b h
  rw [tyF,List.getElem?_cons_succ,this]
  have e:upI w (n+1) ⟨⟨w.dev,w.seq⟩,n⟩ i=upI w n up (i+1):=by
   unfold upI
   by_cases hi:i=0
   ·subst hi;simp
   ·rw [if_neg hi,if_neg (by omega)];congr 1;omega
  rw [tyE,tyE,e];congr 2;omega
theorem uC (w:Sp):∀(bs:List UInt8) (n:Int) (up:Nm),(tyF w bs n up).length=bs.length
 |[],_,_=>rfl
 |c::bs,n,up=>by rw [tyF,zlc,uC w bs];rfl
theorem aFG (w:Sp) (n:Int) (up:Nm) (i:Nat) (b:UInt8):PF Tryz.prog 282 [.agg [(PV.val (Value.int .i64 (1))),(PV.val (Value.int .i64 ((b.toNat:Int)))),(PV.val (Value.string (e0))),(PV.val (Value.int .i64 (w.dev))),(PV.val (Value.int .i64 (w.seq))),(PV.val (Value.int .i64 (n+i))),(PV.val (Value.int .i64 (w.time))),(PV.val (Value.int .i64 ((upI w n up i).dot.dev))),(PV.val (Value.int .i64 ((upI w n up i).dot.seq))),(PV.val (Value.int .i64 ((upI w n up i).at_))),(PV.val (Value.bool (false)))]] (.agg [(PV.val (Value.int .i64 (w.dev))),(PV.val (Value.int .i64 (w.seq))),(PV.val (Value.int .i64 (n+i)))]):=nB (tyE w n up i b)
theorem type_spec (c:Cl) (s:ByteArray) (w:Sp) (d:Dt) (at_:Int) (hl:c.parts.length<1000000000000) (hs:s.size<1000000):PF Tryz.prog 250 [.agg c.cells,(PV.val (Value.string (s))), .agg w.cells, .agg d.cells,(PV.val (Value.int .i64 (at_)))] (.tup [.agg (typeP c s w ⟨d,at_⟩).1.cells,(PV.val (Value.int .i64 ((typeP c s w ⟨d,at_⟩).2)))]):=by
 intro st
 by_cases hr:rightP c=0
 ·have hW:=(jO hr).2.2.1
  have hwr:=afH (c:=c) (w:=w) hW.formed
  have hr0:=hr
  obtain ⟨tyL,htl⟩:∃t,tyF w s.data.toList (dF c w) ⟨d,at_⟩=t:=⟨_,rfl⟩
  have hty0:tyL.length=s.size:=by rw [<-htl,uC];rfl
  refine bZ aF Tryz.func250 (by kernel_rfl) rfl rfl rfl rfl ?_
  (try apply wO pk;rfl);(repeat' first|show All _;constructor|show Imp _ _;constructor|show ImpX _ _ _ _;constructor|apply wC pk;rfl;rfl|apply wE pk;rfl;rfl|refine aA rfl ?_ ?_<;>intro h<;>(try simp at h)<;>try omega|(refine aC ?_;first|refine ⟨_,_,_,rfl,zwr _,zsr _, ?_,rfl⟩;(fail)|refine ⟨_,_,_,rfl,zwr _,aL ‹_›, ?_,rfl⟩;(fail)|(refine ⟨_,_,_,rfl,zwf _,zsr _, ?_,rfl⟩;(((first|have e:typeP c s w ⟨d,at_⟩=(Cl.zero,1):=(by unfold typeP;grind);rw [e];rfl|have e:typeP c s w ⟨d,at_⟩=(Cl.zero,2):=(by unfold typeP;grind);rw [e];rfl|have e:typeP c s w ⟨d,at_⟩=(Cl.zero,eT c w ⟨d,at_⟩):=(by unfold typeP;grind);rw [e];rfl);done)))|refine ⟨_,_,_,rfl,zwf _,aL ‹_›, ?_,rfl⟩;(fail)|(refine ⟨_,_,_,rfl,zwr _,zsr _, ?_,rfl⟩)|(refine ⟨_,_,_,rfl,zwf _,aL ‹_›, ?_,rfl⟩))|(apply aH;rfl;rfl;rfl;(intro _;(first|apply (right_spec c (by omega))|apply (aiB c w hl hW.formed)|apply (ajI c w ⟨d,at_⟩ hl))<;>first|assumption|omega);rotate_left;rfl;rfl)|(apply cB;rfl;rfl;(apply (vD c.parts _ hl)<;>first|exact aB _ _ _|assumption|omega|(fail));rfl;rfl;rfl;intro _ st' hR;obtain ⟨id,rfl,hid,rfl⟩:=hR)|intros;(try simp only [zql]);omega)
  ·have hid:st id=none:=hid
   refine aK (X:={x:Nat×Nat//x.1<=s.size/\st x.2=none}) (λi=>((((((((((St.nil 103 (upd st i.1.2 (some (.arr 190 ((c.parts++tyL.take i.1.1).map Pt.cells))))).pv 1 ((PV.val (Value.string (s))))).var 5 80 (c.cells)).var 7 47 (w.cells)).var 10 80 ([(PV.val (Value.int .i64 (0))),(PV.val (Value.int .i64 (0))),(PV.val (Value.int .i64 (0))),(PV.val (Value.string (e0))), .val (.slice none 0 0)])).pv 13 ((PV.val (Value.int .i64 (dF c w))))).var 14 351 ([(PV.val (Value.int .i64 ((upI w (dF c w) ⟨d,at_⟩ i.1.1).dot.dev))),(PV.val (Value.int .i64 ((upI w (dF c w) ⟨d,at_⟩ i.1.1).dot.seq))),(PV.val (Value.int .i64 ((upI w (dF c w) ⟨d,at_⟩ i.1.1).at_)))])).pv 16 (.vec i.1.2 11 0 (c.parts.length+i.1.1))).pv 68 ((PV.val (Value.int .i64 ((s.size:Nat)))))).pv 69 ((PV.val (Value.int .i64 ((i.1.1:Nat))))))) (λi=>s.size-i.1.1) ⟨(0,id),by simp,hid⟩ ?_ (λi=> ?_)
   ·dsimp only
    rw [List.take_zero,List.append_nil]
    (((repeat (first|refine Sub.pv ?_ rfl|refine Sub.var ?_ rfl rfl));(exact Sub.nil _ _ _ (zsr _) rfl)))
   obtain ⟨⟨i,id⟩,hi,hid⟩:=i
   simp only at hi hid
   dsimp only
   have hlen:(c.parts++tyL.take i).length=c.parts.length+i:=by rw [zla,zlt];omega
   have hlen2:((c.parts++tyL.take i).map Pt.cells).length=c.parts.length+i:=by rw [zql,hlen]
   by_cases him:i<s.size
   ·have hb:s[i]?=some s[i]:=getElem?_pos s i him
    have hp:=asA w s.data.toList (dF c w) ⟨d,at_⟩ i s[i] (by rw [<-hb];simp [him];rfl)
    rw [htl] at hp
    have hsplit:tyL.take (i+1)=tyL.take i++[tyE w (dF c w) ⟨d,at_⟩ i s[i]]:=by rw [List.take_add_one,hp];rfl
    (try apply wO pk;rfl);(repeat' first|show All _;constructor|show Imp _ _;constructor|apply wC pk;rfl;rfl|apply wE pk;rfl;rfl|apply wDx pk;rfl;kernel_rfl;rfl;rfl|refine aA rfl ?_ ?_<;>intro h<;>(try simp at h)<;>try omega|(apply aH;rfl;rfl;rfl;(intro _;apply (aFG w (dF c w) ⟨d,at_⟩ i s[i])<;>first|assumption|omega);rotate_left;rfl;rfl)|(apply apV pk (f:=Pt.cells) [tyE w (dF c w) ⟨d,at_⟩ i s[i]] 96;(iterate 9 rfl);(exact aB _ _ _);(omega);exact λ_=>rfl;exact λ_=>rfl;exact zF;((focus (simp;omega)));((focus (simp;omega)));rfl;intro id' hid')|apply cvA pk.htt;(iterate 5 rfl);(refine ⟨?_, ?_⟩<;>(first|omega|have q:=(s[i]'him).toNat_lt;omega));rfl|apply sxA pk.htt i s[i];(iterate 6 rfl);exact hb;rfl|(refine ⟨⟨(i+1,id'),by simp only;omega,iK hid'⟩, ?_,by simp only;omega⟩;((dsimp only;rw [hsplit,<-List.append_assoc]));(((repeat (first|refine Sub.pv ?_ rfl|refine Sub.var ?_ rfl rfl|refine Sub.var' ?_ rfl rfl (by (first|rfl|(focus (simp [upI];omega))))));(exact Sub.nil _ _ _ (cQ ‹_›) rfl))))|intros;(try simp only [zql]);omega)
   ·have hfin:tyL.take i=tyL:=List.take_of_length_le (by omega)
    rw [hfin]
    have hty:typeP c s w ⟨d,at_⟩=({c with parts:=dH (c.parts++tyL)},0):=by
     unfold typeP;rw [if_neg (by omega),if_neg (by omega),if_neg (by omega),if_neg (by omega),<-htl]
    (try apply wO pk;rfl);(repeat' first|refine aC ?_;refine ⟨_,_,st,rfl,zwr _,bO (bO (zsr _) hid) hid, ?_,rfl⟩;rw [hty];rfl|show All _;constructor|show Imp _ _;constructor|apply wC pk;rfl;rfl|apply wE pk;rfl;rfl|refine aA rfl ?_ ?_<;>intro h<;>(try simp at h)<;>try omega|(apply aH;rfl;rfl;rfl;(intro _;apply (abC (c.parts++tyL) (by rw [hfin] at hlen;omega))<;>first|assumption|omega);rotate_left;rfl;rfl)|apply aDQ 99;rfl;exact aB _ _ _;(rw [hfin] at hlen2;exact hlen2);exact amZ)
 ·refine bZ aF Tryz.func250 (by kernel_rfl) rfl rfl rfl rfl ?_
  (try apply wO pk;rfl);(repeat' first|show All _;constructor|show Imp _ _;constructor|apply wC pk;rfl;rfl|apply wE pk;rfl;rfl|refine aA rfl ?_ ?_<;>intro h<;>(try simp at h)<;>try omega|(refine aC ?_;first|refine ⟨_,_,_,rfl,zwr _,zsr _, ?_,rfl⟩;(fail)|refine ⟨_,_,_,rfl,zwr _,aL ‹_›, ?_,rfl⟩;(fail)|refine ⟨_,_,_,rfl,zwf _,zsr _, ?_,rfl⟩;(((have e:typeP c s w ⟨d,at_⟩=(Cl.zero,rightP c):=(by unfold typeP;rw [if_pos hr]);rw [e];rfl);done))|refine ⟨_,_,_,rfl,zwf _,aL ‹_›, ?_,rfl⟩;(fail)|(refine ⟨_,_,_,rfl,zwr _,zsr _, ?_,rfl⟩)|(refine ⟨_,_,_,rfl,zwf _,aL ‹_›, ?_,rfl⟩))|(apply aH;rfl;rfl;rfl;(intro _;apply (right_spec c (by omega))<;>first|assumption|omega);rotate_left;rfl;rfl))
end Go.Proofs.YtloecjjehapblaaGreatDoor.T
