import Derived.Test.YtloecjjehapblaaGreatDoorOkAl
import Derived.Test.YtloecjjehapblaaGreatDoorOkAe
import Derived.Test.YtloecjjehapblaaGreatDoorOkAf
import Derived.Test.YtloecjjehapblaaGreatDoorOkAa
set_option linter.unusedSimpArgs false
set_option linter.unusedVariables false
namespace Go.Proofs.YtloecjjehapblaaGreatDoor
open Go Go.Abs
attribute [local irreducible] Ev PWp
set_option maxRecDepth 10000
set_option maxHeartbeats 4000000
def aFy (t:Tb):Nat:=t.cols.length+t.unique.length+t.checks.length+t.foreign.length+t.sums.length
def aEm (s:Sc):Nat:=(s.map aFy).sum
def aGm (s:Sc):Bool:=decide (s.length<=20)&&decide (aEm s<=400)
theorem aCB {s:Sc} {t:Tb} (h:t∈s):aFy t<=aEm s:=by
 unfold aEm
 induction s with
 |nil=>cases h
 |cons a s ih=>
  rw [zmp,List.sum_cons]
  rcases zmc.1 h with rfl|h
  ·omega
  ·have:=ih h;omega
noncomputable def fewX (s:Sc):Bool:=s.all λt=>t.checks.all λc=>decide (X.nodesR 25 (exOf c) 60<=60)
noncomputable def fewC (s:Sc) (b:Bs):Bool:=(aGm s&&aBC b)&&fewX s
theorem CkB.of {s:Sc} {b:Bs} (h:fewC s b=true) (hB:ScB s) (hK:∀t∈s,zI t):CkB 100 s b:=by
 unfold fewC aGm at h
 simp only [zba,zde] at h
 obtain ⟨⟨⟨h1,h2⟩,h3⟩,h4⟩:=h
 exact ⟨hB,h1,λt ht=>by have:=aCB ht;unfold aFy at this;omega,hK,aDV h3,by omega⟩
theorem aHf {A B:List (List PV)} (hl:A.length=B.length) (h:∀x∈A.zip B,WkL x.1 x.2):Wk (.seq A) (.seq B):=by
 have:=Wk.rows (f:=Prod.fst) (k:=Prod.snd) (l:=A.zip B) h
 rwa [List.map_fst_zip (by omega),List.map_snd_zip (by omega)] at this
def agS :PV:= .val (.slice none 0 0)
def aGM (n:Int):X.Ex:= .mk 1 0 ⟨1,n,e0⟩ []
def noE :X.Ex:= .mk 9 0 X.v0 [.mk 5 0 X.v0 [.mk 0 2 X.v0 [],aGM 4]]
def plC :List Co:=[⟨⟨#[105,100]⟩,0,1,false⟩,⟨⟨#[117]⟩,0,1,true⟩,⟨⟨#[110]⟩,0,1,false⟩,⟨⟨#[103]⟩,0,1,true⟩,⟨⟨#[117,112]⟩,0,1,true⟩]
def plT (name:ByteArray):Tb:=⟨name,plC,[1],[noE.cells],[⟨4,0,0⟩],[⟨2,3,10⟩]⟩
def plS :Sc:=[plT ⟨#[97]⟩]
def aG1 (n:Int):Vl:=if n<0 then Vl.zero else ⟨1,n,e0⟩
def cV (n:Int):Cl:=⟨0,aG1 n,[]⟩
def lnC (k u n g up:Int):Ln:=⟨k,[cV k,cV u,cV n,cV g,cV up],[]⟩
theorem apA :noE.ok:=by simp [noE,aGM,X.Ex.ok,X.Ex.oks]
theorem aC7 (name:ByteArray):zI (plT name):=λc hc=>by
 rw [zms.1 hc]
 exact ⟨noE,apA,rfl⟩
def exP (r:List Vl):Int:=chE (X.EvalR noE r)
theorem nS {α:Type} (f:α->Int) (x:α):dT f [x]=f x:=by
 rw [wM]
 split
 ·rename_i h;rw [h];rfl
 ·rfl
theorem aE8 (name:ByteArray):exR (plT name)=exP:=by
 funext r
 unfold exR exP
 show dT _ [noE.cells]=_
 rw [nS,asF apA]
theorem auM (name:ByteArray):rightX (plT name)=0:=by
 unfold rightX
 show dT _ [noE.cells]=_
 rw [nS,asF apA]
 kernel_rfl
theorem atO :rightC plS=0:=by
 unfold rightC
 rw [zp (show cM plS=0 from by kernel_rfl)]
 show dT rightX [plT ⟨#[97]⟩]=0
 rw [nS,auM]
theorem aEd {ex ex':Tb->List Vl->Int} {b:Bs} {t:Tb} {rows:List (List Vl)} (h:ex t=ex' t):ckT ex b t rows=ckT ex' b t rows:=by unfold ckT;rw [h]
theorem aDB {sh:Cl->Vl} {ex:Tb->List Vl->Int} {t:Tb} {b:Bs}:ckW sh ex [t] b=ckT ex b t (eP sh b 0):=by
 unfold ckW
 show dT _ [0]=_
 rw [nS];rfl
theorem aGu :ScB plS:=λt ht=>by
 rw [zms.1 ht]
 exact ⟨by decide,by decide,by decide,by decide,by decide⟩
theorem plB {b:Bs} (h:BsS 100 b):CkB 100 plS b:=⟨aGu,by decide,λt ht=>by rw [zms.1 ht];decide,λt ht=>by rw [zms.1 ht];exact aC7 _,h,by decide⟩
theorem agT {b:Bs} {c:Int} (h:BsS 100 b) (hg:cE T.rightP plS b=true) (hc:ckT (λ_=>exP) b (plT ⟨#[97]⟩) (eP bO b 0)=c):PF Tryz.prog 20 [.agg (scC plS), .agg (bsC b)] (.val (.int .i64 c)):=by
 have e:whyC plS b=c:=by
  unfold whyC mayC
  rw [atO,hg,zp (by decide)]
  show ckW bO exR [plT ⟨#[97]⟩] b=c
  rw [aDB,aEd (ex':=λ_=>exP) (aE8 _),hc]
 exact e▸aiZ (plB h)
def bW1 :Bs:=[⟨[lnC 1 1 6 0 2,lnC 2 (-1) 5 1 (-1)]⟩]
def bW2 :Bs:=[⟨[lnC 1 1 6 0 2,lnC 2 (-1) 5 0 (-1)]⟩]
def bW3 :Bs:=[⟨[lnC 1 1 1 0 (-1),lnC 2 1 1 0 (-1)]⟩]
def bW4 :Bs:=[⟨[lnC 1 1 4 0 (-1)]⟩]
theorem w1 :PF Tryz.prog 20 [.agg (scC plS), .agg (bsC bW1)] (.val (.int .i64 0)):=agT (by unfold BsS LnS;decide) (by kernel_rfl) (by kernel_rfl)
theorem w2 :PF Tryz.prog 20 [.agg (scC plS), .agg (bsC bW2)] (.val (.int .i64 11)):=agT (by unfold BsS LnS;decide) (by kernel_rfl) (by kernel_rfl)
theorem w3 :PF Tryz.prog 20 [.agg (scC plS), .agg (bsC bW3)] (.val (.int .i64 8)):=agT (by unfold BsS LnS;decide) (by kernel_rfl) (by kernel_rfl)
theorem w4 :PF Tryz.prog 20 [.agg (scC plS), .agg (bsC bW4)] (.val (.int .i64 9)):=agT (by unfold BsS LnS;decide) (by kernel_rfl) (by kernel_rfl)
end Go.Proofs.YtloecjjehapblaaGreatDoor
namespace Go.Proofs.YtloecjjehapblaaGreatDoor
open Go Go.Abs Go.ChangeShapes Go.WideShapes Go.ChangeAt Go.RowKit
set_option maxRecDepth 10000
end Go.Proofs.YtloecjjehapblaaGreatDoor
namespace Go.Proofs.YtloecjjehapblaaGreatDoor
open Go Go.Abs
attribute [local irreducible] Ev PWp
set_option maxRecDepth 10000
set_option maxHeartbeats 4000000
theorem anW (l:List Pt) (st:aI) (hl:l.length<1000000000000):PC Tryz.prog 318 [.seq (l.map Pt.cells)] st (LR 190 11 st (l.map Pt.cells)):=by
 refine cB aF Tryz.func318 (by kernel_rfl) rfl rfl rfl rfl ?_
 (try apply wO pk;rfl);(repeat' first|show Cn _;constructor|apply wC pk;rfl;rfl|apply wE pk;rfl;rfl|refine aB rfl ?_ ?_<;>intro h<;>(try simp at h)<;>try omega|((try refine aC ?_);((refine ⟨_,_,_,rfl,zwr _,zsr _, ?_⟩;((first|exact .inr ⟨rfl,hb h,zsr _⟩|exact .inl ⟨id',by rw [zql],hid',aA _ _ _,cY hid'⟩));done)))|(apply ap0 pk (f:=Pt.cells) l 96;(iterate 10 rfl);exact λ_=>rfl;exact λ_=>rfl;exact uF;(omega);(omega);rfl;intro id' hid')|(apply aAe pk;(iterate 6 rfl);intro b hb))
theorem vK (l:List Pt) (st:aI) (hl:l.length<1000000000000):PC Tryz.prog 318 [.seq (l.map Pt.cells)] st λp S=>∃id,p= .vec id 11 0 l.length/\st id=none/\S=upd st id (some (.arr 190 (l.map Pt.cells))):=
 vS (aaI (anW l st hl)) λp st' ⟨id,h1,h2,h3⟩=>⟨p,st',zwr _,zsr _,id,by rw [h1,zql],h2,h3⟩
end Go.Proofs.YtloecjjehapblaaGreatDoor
namespace Go.Proofs.YtloecjjehapblaaGreatDoor.T
open Go Go.Abs
attribute [local irreducible] Ev PWp
set_option maxRecDepth 10000
set_option maxHeartbeats 4000000
def xP (p:Pt):Pt:={p with gone:=true}
def dX (k:Nm) (l:List Pt):List Pt:=l.map λp=>if aM p=k then xP p else p
def eraseP (c:Cl) (k:Nm):Cl:={c with parts:=dX k c.parts}
def iR (k:Nm) (l:List Pt) (i:Nat):List Pt:=dX k (l.take i)++l.drop i
theorem alQ {k:Nm} {l:List Pt} {i:Nat} (h:i<l.length):(iR k l i)[i]?=some l[i]:=by
 unfold iR dX
 rw [List.getElem?_append_right (by simp;omega)]
 simp [Nat.min_eq_left (Nat.le_of_lt h)]
theorem tH {k:Nm} {l:List Pt} {i:Nat} (h:i<l.length):iR k l (i+1)=if aM l[i]=k then (iR k l i).set i (xP l[i]) else iR k l i:=by
 unfold iR dX
 rw [List.take_succ_eq_append_getElem h,List.map_append]
 have hlen:((l.take i).map λp=>if aM p=k then xP p else p).length=i:=by simp;omega
 split
 ·rename_i e
  rw [List.set_append_right _ _ (by omega),hlen,List.drop_eq_getElem_cons h];simp only [zmp,List.map_nil,zp e,Nat.sub_self,List.set_cons_zero,List.append_assoc,List.cons_append,List.nil_append]
 ·rename_i e
  rw [List.drop_eq_getElem_cons h];simp [e]
def aE2 (st:aI) (c:Cl) (k:Nm) (p:PV) (st':aI):Prop:=
 ∃id,p= .agg [(PV.val (Value.int .i64 (c.kind))),(PV.val (Value.int .i64 (c.val.kind))),(PV.val (Value.int .i64 (c.val.n))),(PV.val (Value.string (c.val.s))), .vec id 11 0 c.parts.length]/\st'=upd st id (some (.arr 190 ((dX k c.parts).map Pt.cells)))/\st id=none
theorem asL (p:Pt) (d:Dt) (n:Int):aM p=⟨d,n⟩↔((aM p).dot.dev=d.dev/\(aM p).dot.seq=d.seq)/\(aM p).at_=n:=by
 rw [Nm.ext_iff,Dt.ext_iff]
theorem aBK (c:Cl) (d:Dt) (at_:Int) (st:aI) (hl:c.parts.length<1000000000000):PC Tryz.prog 252 [.agg c.cells, .agg d.cells,(.val (.int .i64 at_))] st (aE2 st c ⟨d,at_⟩):=by
 refine cB aF Tryz.func252 (by kernel_rfl) rfl rfl rfl rfl ?_
 (try apply wO pk;rfl);(repeat' first|show Cn _;constructor|apply wE pk;rfl;rfl|(apply cD;rfl;rfl;(apply (vK c.parts _ hl)<;>first|exact aA _ _ _|assumption|omega|(fail));rfl;rfl;rfl;intro _ st' hR;obtain ⟨id,rfl,hid,rfl⟩:=hR))
 ·have hid:st id=none:=hid
  have e00:iR ⟨d,at_⟩ c.parts 0=c.parts:=rfl
  refine aK (X:={x:Nat//x<=c.parts.length}) (λi=>((((((((St.nil 34 (upd st id (some (.arr 190 ((iR ⟨d,at_⟩ c.parts i.1).map Pt.cells))))).pv 2 ((PV.val (Value.int .i64 (at_))))).var 3 80 ([(PV.val (Value.int .i64 (c.kind))),(PV.val (Value.int .i64 (c.val.kind))),(PV.val (Value.int .i64 (c.val.n))),(PV.val (Value.string (c.val.s))), .vec id 11 0 c.parts.length])).var 4 59 (d.cells)).var 6 80 ([(PV.val (Value.int .i64 (0))),(PV.val (Value.int .i64 (0))),(PV.val (Value.int .i64 (0))),(PV.val (Value.string (e0))), .val (.slice none 0 0)])).pv 14 (.vec id 11 0 c.parts.length)).pv 15 ((PV.val (Value.int .i64 ((c.parts.length:Nat)))))).pv 16 ((PV.val (Value.int .i64 ((i.1:Nat))))))) (λi=>c.parts.length-i.1) ⟨0,by omega⟩ ?_ (λi=> ?_)
  ·(((repeat (first|refine Sub.pv ?_ rfl|refine Sub.var ?_ rfl rfl));(exact Sub.nil _ _ _ (zsr _) rfl)))
  obtain ⟨i,hi⟩:=i
  dsimp only
  have hf:c.parts.length<=i->iR ⟨d,at_⟩ c.parts i=dX ⟨d,at_⟩ c.parts:=λh=>by unfold iR;rw [ztl h,List.drop_eq_nil_of_le h,List.append_nil]
  have hg:=λh:i<c.parts.length=>alQ (k:=⟨d,at_⟩) h
  (try apply wO pk;rfl);(repeat' first|show Cn _;constructor|apply wC pk;rfl;rfl|apply wE pk;rfl;rfl|apply wDx pk;rfl;kernel_rfl;rfl;rfl|refine aB rfl ?_ ?_<;>intro h<;>(try simp at h)<;>try omega|(try refine aC ?_);((refine ⟨_,_,_,rfl,zwr _,zsr _, ?_⟩;((have e:=hf (by omega);refine ⟨id,rfl, ?_,hid⟩;show upd st id _=upd st id _;rw [e]));done))|(apply aH;rfl;rfl;rfl;(intro _;apply nE<;>first|assumption|omega);rotate_left;rfl;rfl)|apply ldL pk Pt.elem (a:=(c.parts[i]'‹_›));rfl;rfl;rotate_left;rfl;(exact aA _ _ _);(intro _;exact (hg ‹_›));rfl|apply ixA pk;(iterate 5 rfl);rotate_left;rfl;(intro hw;(exact (show _=((i:Nat):Int) from by omega)));(intro hw;(omega));rfl;(exact Nat.zero_add _)|apply stF pk (f:=Pt.cells) (c.parts[i]'‹_›) (xP (c.parts[i]'‹_›));rfl;rfl;exact aA _ _ _;rfl;exact (hg ‹_›);rfl;rfl|(refine ⟨⟨i+1,by omega⟩, ?_,by simp only;omega⟩;(rw [tH ‹_›,zp ((asL _ _ _).2 h)]);(((repeat (first|refine Sub.pv ?_ rfl|refine Sub.var ?_ rfl rfl));(exact Sub.nil _ _ _ (eY (by first|rfl|exact fV ‹_›|((simp only [St.pv,St.put,St.sst,St.setv,St.nil,St.var,fG]);first|done|rfl))) rfl))))|(refine ⟨⟨i+1,by omega⟩, ?_,by simp only;omega⟩;(rw [tH ‹_›,zn (λq=>by have:=(asL _ _ _).1 q;exact h this.1.1 this.1.2 this.2)]);(((repeat (first|refine Sub.pv ?_ rfl|refine Sub.var ?_ rfl rfl));(exact Sub.nil _ _ _ (zsr _) rfl))))|intros;(try simp only [zql]);omega)
theorem erase_spec (c:Cl) (d:Dt) (at_:Int) (hl:c.parts.length<1000000000000):PF Tryz.prog 252 [.agg c.cells, .agg d.cells,(.val (.int .i64 at_))] (.agg (eraseP c ⟨d,at_⟩).cells):=λst=>
 gN (sz:=11) (aBK c d at_ st hl) λp st' h=>by
  obtain ⟨id,rfl,rfl,h3⟩:=h
  refine .inl ⟨id,190,(dX ⟨d,at_⟩ c.parts).map Pt.cells,_,st,aA _ _ _,anE, .agg (.cons .refl (.cons .refl (.cons .refl (.cons .refl (.cons ?_ .nil))))),cY h3,rfl,rfl⟩
  have e:((dX ⟨d,at_⟩ c.parts).map Pt.cells).length=c.parts.length:=by simp [dX]
  rw [<-e];exact .all
def wrF (d:Dt) (t:Int):List Pt->Int->Int
 |[],n=>n
 |p::r,n=>if p.dot≠d then wrF d t r n else if p.time≠t then-1 else wrF d t r (max n (p.at_+1))
def dI (c:Cl) (w:Sp):Int:=if withinB w.time 1 1125899906842624=true/\mayN ⟨⟨w.dev,w.seq⟩,0⟩=true then wrF ⟨w.dev,w.seq⟩ w.time c.parts 0 else-1
theorem aA8 {d:Dt} {t n:Int} {l:List Pt} {i:Nat} (h:i<l.length):wrF d t (l.drop i) n=if l[i].dot≠d then wrF d t (l.drop (i+1)) n else if l[i].time≠t then-1 else wrF d t (l.drop (i+1)) (max n (l[i].at_+1)):=by
 rw [List.drop_eq_getElem_cons h];rfl
theorem aiA (c:Cl) (w:Sp) (hl:c.parts.length<1000000000000) (hf:∀p∈c.parts,bS p=true):PF Tryz.prog 321 [.agg c.cells, .agg w.cells] (.val (.int .i64 (dI c w))):=by
 refine aG aF Tryz.func321 (by kernel_rfl) rfl rfl rfl rfl (λst=> ?_)
 (try apply wO pk;rfl);(repeat' first|show Cn _;constructor|apply wC pk;rfl;rfl|apply wE pk;rfl;rfl|refine aB rfl ?_ ?_<;>intro h<;>(try simp at h)<;>try omega|(refine aC ?_;refine ⟨_,_,_,rfl,zwr _,zsr _, ?_,rfl⟩;try first|rfl|(rw [dI,zn (by grind)]);done)|(apply aH;rfl;rfl;rfl;(intro _;(first|apply qC|apply (iW ⟨⟨w.dev,w.seq⟩,0⟩))<;>first|assumption|omega);rotate_left;rfl;rfl))
 have hok:withinB w.time 1 1125899906842624=true/\mayN ⟨⟨w.dev,w.seq⟩,0⟩=true:=by grind
 refine aK (X:={x:Nat×Int//x.1<=c.parts.length/\0<=x.2/\x.2<=2000/\wrF ⟨w.dev,w.seq⟩ w.time (c.parts.drop x.1) x.2=wrF ⟨w.dev,w.seq⟩ w.time c.parts 0}) (λi=>(((((((St.nil 47 st).var 3 47 (w.cells)).var 5 59 ([(PV.val (Value.int .i64 (w.dev))),(PV.val (Value.int .i64 (w.seq)))])).pv 6 ((PV.val (Value.int .i64 (i.1.2))))).pv 25 (.seq (c.parts.map Pt.cells))).pv 26 ((PV.val (Value.int .i64 ((c.parts.length:Nat)))))).pv 27 ((PV.val (Value.int .i64 ((i.1.1:Nat))))))) (λi=>c.parts.length-i.1.1) ⟨(0,0),by simp,by simp,by simp,rfl⟩ ?_ (λi=> ?_)
 ·((repeat (first|refine Sub.pv ?_ rfl|refine Sub.var ?_ rfl rfl|refine Sub.pv' ?_ rfl (by simp)));exact Sub.nil _ _ _ (zsr _) rfl)
 obtain ⟨⟨i,n⟩,hi,hn0,hn1,hinv⟩:=i
 simp only at hi hn0 hn1 hinv
 dsimp only
 have hs:=λh:i<c.parts.length=>aA8 (d:=⟨w.dev,w.seq⟩) (t:=w.time) (n:=n) h
 have hb:=λh:i<c.parts.length=>mL (hf _ (zgm h))
 have hd:=λh:i<c.parts.length=>(Dt.ext_iff (c.parts[i]'h).dot ⟨w.dev,w.seq⟩)
 by_cases him:i<c.parts.length
 ·have hs:=hs him
  have hb:=hb him
  have hd:=hd him
  (try apply wO pk;rfl);(repeat' first|show Cn _;constructor|apply wC pk;rfl;rfl|apply wE pk;rfl;rfl|refine aB rfl ?_ ?_<;>intro h<;>(try simp at h)<;>try omega|(refine aC ?_;refine ⟨_,_,_,rfl,zwr _,zsr _, ?_,rfl⟩;try first|rfl|(rw [dI,zp hok,<-hinv,hs];grind);done)|apply aP pk;(iterate 6 rfl);rotate_left;rfl;(intro hw;rfl);(intro hw;apply aJ<;>omega);(intro _;rfl);rfl|((first|refine ⟨⟨(i+1,n),by simp only;omega,hn0,hn1,by rw [<-hinv,hs];grind⟩, ?_,by simp only;omega⟩|refine ⟨⟨(i+1,max n ((c.parts[i]'him).at_+1)),by simp only;omega,by simp only;omega,by simp only;omega,by rw [<-hinv,hs];grind⟩, ?_,by simp only;omega⟩);((repeat (first|refine Sub.pv ?_ rfl|refine Sub.var ?_ rfl rfl));exact Sub.nil _ _ _ (zsr _) rfl))|intros;(try simp only [zql]);omega)
 ·(try apply wO pk;rfl);(repeat' first|show Cn _;constructor|apply wC pk;rfl;rfl|refine aB rfl ?_ ?_<;>intro h<;>(try simp at h)<;>try omega|(refine aC ?_;refine ⟨_,_,_,rfl,zwr _,zsr _, ?_,rfl⟩;try first|rfl|(rw [dI,zp hok,<-hinv,List.drop_eq_nil_of_le (by omega)];rfl);done))
theorem azT (fid:FuncId) (caps:List PV) (f:Pt->Bool) (l:List Pt) (hl:l.length<4611686018427387904) (hf:∀p,PF Tryz.prog fid ([.agg p.cells]++caps) (.val (.bool (f p)))):PF Tryz.prog 372 [.seq (l.map Pt.cells), .fn fid caps] (.val (.int .i64 (match l.findIdx? f with|some k=>((k:Nat):Int)|none=> -1))):=by
 refine aG aF Tryz.func372 (by kernel_rfl) rfl rfl rfl rfl (λst=> ?_)
 (try apply wO pk;rfl);(repeat' ((show Cn _;constructor)))
 refine aK (X:={x:Nat//x<=l.length/\∀j (h:j<x) (h2:j<l.length),f l[j]=false}) (λi=>(((((St.nil 19 st).pv 0 (.seq (l.map Pt.cells))).pv 1 (.fn fid caps)).pv 7 ((PV.val (Value.int .i64 ((((l.map Pt.cells)).length:Nat)))))).pv 8 ((PV.val (Value.int .i64 ((i.1:Nat))))))) (λi=>l.length-i.1) ⟨0,by omega,by omega⟩ ?_ (λi=> ?_)
 ·((repeat refine Sub.pv ?_ rfl);exact Sub.nil _ _ _ (zsr _) rfl)
 obtain ⟨i,hi,hinv⟩:=i
 dsimp only
 (try apply wO pk;rfl);(repeat' first|show Cn _;constructor|apply wC pk;rfl;rfl|apply wE pk;rfl;rfl|refine aB rfl ?_ ?_<;>intro h<;>(try simp at h)<;>try omega|(refine aC ?_;refine ⟨_,_,_,rfl,zwr _,zsr _, ?_,rfl⟩;try first|rfl|(first|rw [nO ‹_› ‹_› hinv];done|rw [nA ‹_› hinv]);done)|(apply aH;rfl;rfl;rfl;(intro _;apply hf<;>first|assumption|omega);rotate_left;rfl;rfl)|apply aP pk;(iterate 6 rfl);rotate_left;rfl;(intro hw;rfl);(intro hw;apply aJ<;>omega);(intro _;rfl);rfl|refine ⟨⟨i+1,by omega,λj h1 h2=>by rcases zls.1 h1 with q|q;exact hinv j q h2;subst q;assumption⟩, ?_,by simp only;omega⟩;((repeat refine Sub.pv ?_ rfl);exact Sub.nil _ _ _ (zsr _) rfl)|intros;(try simp only [zql]);omega)
def eS (c:Cl) (w:Sp) (up:Nm):Int:=if up=Nm.zero then 0 else match c.parts.findIdx? (λp=>decide (aM p=up)) with
 |none=>4
 |some k=>match c.parts[k]? with
  |none=>4
  |some p=>if bL p≠w/\jL (bL p) w=false then 14 else 0
theorem aBT (up:Nm) (p:Pt):PF Tryz.prog 373 ([.agg p.cells]++[.rp up.cells]) (.val (.bool (decide (aM p=up)))):=by
 refine aG aF Tryz.func373 (by kernel_rfl) rfl rfl rfl rfl (λst=> ?_)
 (try apply wO pk;rfl);(repeat' first|show Cn _;constructor|apply wE pk;rfl;rfl|apply wD pk [] [];kernel_rfl;rfl;rfl|(refine aC ?_;refine ⟨_,_,_,rfl,zwr _,zsr _, ?_,rfl⟩;try first|rfl|(rw [Dt.eqb,Nm.eqb]);done)|(apply aH;rfl;rfl;rfl;(intro _;apply nE<;>first|assumption|omega);rotate_left;rfl;rfl))
theorem ajH (c:Cl) (w:Sp) (up:Nm) (hl:c.parts.length<1000000000000):PF Tryz.prog 322 [.agg c.cells, .agg w.cells, .agg up.cells] (.val (.int .i64 (eS c w up))):=by
 have hz:up=Nm.zero↔(up.dot.dev=0/\up.dot.seq=0)/\up.at_=0:=by rw [Nm.ext_iff,Dt.ext_iff];rfl
 have hx:=azT _ _ (λp=>decide (aM p=up)) c.parts (by omega) (aBT up)
 cases hI:c.parts.findIdx? (λp=>decide (aM p=up)) with
 |none=>
  rw [hI] at hx
  refine aG aF Tryz.func322 (by kernel_rfl) rfl rfl rfl rfl (λst=> ?_)
  (try apply wO pk;rfl);(repeat' first|show Cn _;constructor|apply wC pk;rfl;rfl|apply wE pk;rfl;rfl|refine aB rfl ?_ ?_<;>intro h<;>(try simp at h)<;>try omega|(refine aC ?_;refine ⟨_,_,_,rfl,zwr _,zsr _, ?_,rfl⟩;try first|rfl|(first|rw [eS,zp (hz.2 h)];done|(rw [eS,zn (λq=>by have:=hz.1 q;grind),hI]));done)|(apply aH;rfl;rfl;rfl;(intro _;apply hx<;>first|assumption|omega);rotate_left;rfl;rfl)|apply bD 5;rfl;rfl)
 |some k=>
  rw [hI] at hx
  obtain ⟨hk,hk1,hk2⟩:=List.findIdx?_eq_some_iff_getElem.1 hI
  have hS:=Sp.ext_iff (bL c.parts[k]) w
  have hbe:up≠Nm.zero->eS c w up=if bL c.parts[k]≠w/\jL (bL c.parts[k]) w=false then 14 else 0:=λh=>by
   rw [eS,zn h,hI];simp only [zgg hk]
  refine aG aF Tryz.func322 (by kernel_rfl) rfl rfl rfl rfl (λst=> ?_)
  (try apply wO pk;rfl);(repeat' first|show Cn _;constructor|apply wC pk;rfl;rfl|apply wE pk;rfl;rfl|refine aB rfl ?_ ?_<;>intro h<;>(try simp at h)<;>try omega|(refine aC ?_;refine ⟨_,_,_,rfl,zwr _,zsr _, ?_,rfl⟩;try first|rfl|(first|rw [eS,zp (hz.2 h)];done|(rw [hbe (λq=>by have:=hz.1 q;grind)];grind));done)|(apply aH;rfl;rfl;rfl;(intro _;(first|apply hx|apply (kV (c.parts[k]'hk))|apply (mI (bL (c.parts[k]'hk)) w))<;>first|assumption|omega);rotate_left;rfl;rfl)|apply aP pk;(iterate 6 rfl);rotate_left;rfl;(intro hw;rfl);(intro hw;apply aJ<;>omega);(intro _;rfl);rfl|apply bD 5;rfl;rfl)
def tyF (w:Sp):List UInt8->Int->Nm->List Pt
 |[],_,_=>[]
 |b::r,n,up=>⟨⟨1,(b.toNat:Int),e0⟩,⟨w.dev,w.seq⟩,n,w.time,up.dot,up.at_,false⟩::tyF w r (n+1) ⟨⟨w.dev,w.seq⟩,n⟩
def typeP (c:Cl) (s:ByteArray) (w:Sp) (up:Nm):Cl×Int:=
 if rightP c≠0 then (Cl.zero,rightP c)
 else if dI c w<0 then (Cl.zero,1)
 else if 200<s.size\/2000<c.parts.length+s.size\/2000<dI c w+s.size then (Cl.zero,2)
 else if eS c w up≠0 then (Cl.zero,eS c w up)
 else ({c with parts:=dD (c.parts++tyF w s.data.toList (dI c w) up)},0)
theorem yM {d:Dt} {t:Int}:∀{l:List Pt} {n:Int},(∀p∈l,bS p=true)->0<=n->n<=2000-> -1<=wrF d t l n/\wrF d t l n<=2000
 |[],n,_,h1,h2=>by simp only [wrF];omega
 |p::r,n,hf,h1,h2=>by
  have hp:=mL (hf p (by simp))
  have hr:∀q∈r,bS q=true:=λq hq=>hf q (by simp [hq])
  simp only [wrF]
  split
  ·exact yM hr h1 h2
  ·split
   ·omega
   ·exact yM hr (by omega) (by omega)
theorem afA {c:Cl} {w:Sp} (hf:∀p∈c.parts,bS p=true): -1<=dI c w/\dI c w<=2000:=by
 unfold dI
 split
 ·exact yM hf (by omega) (by omega)
 ·omega
def upI (w:Sp) (n:Int) (up:Nm) (i:Nat):Nm:=if i=0 then up else ⟨⟨w.dev,w.seq⟩,n+i-1⟩
def tyE (w:Sp) (n:Int) (up:Nm) (i:Nat) (b:UInt8):Pt:=⟨⟨1,(b.toNat:Int),e0⟩,⟨w.dev,w.seq⟩,n+i,w.time,(upI w n up i).dot,(upI w n up i).at_,false⟩
theorem asA (w:Sp):∀(bs:List UInt8) (n:Int) (up:Nm) (i:Nat) (b:UInt8),bs[i]?=some b->(tyF w bs n up)[i]?=some (tyE w n up i b)
 |[],_,_,_,_,h=>by simp at h
 |c::bs,n,up,0,b,h=>by
  simp at h;subst h
  simp [tyF,upI,tyE]
 |c::bs,n,up,i+1,b,h=>by
  rw [List.getElem?_cons_succ] at h
  have:=asA w bs (n+1) ⟨⟨w.dev,w.seq⟩,n⟩ i b h
  rw [tyF,List.getElem?_cons_succ,this]
  have e:upI w (n+1) ⟨⟨w.dev,w.seq⟩,n⟩ i=upI w n up (i+1):=by
   unfold upI
   by_cases hi:i=0
   ·subst hi;simp
   ·rw [zn hi,zn (by omega)];congr 1;omega
  rw [tyE,tyE,e];congr 2;omega
theorem qW (w:Sp):∀(bs:List UInt8) (n:Int) (up:Nm),(tyF w bs n up).length=bs.length
 |[],_,_=>rfl
 |c::bs,n,up=>by rw [tyF,zlc,qW w bs];rfl
theorem aFH (w:Sp) (n:Int) (up:Nm) (i:Nat) (b:UInt8):PF Tryz.prog 282 [.agg [(.val (.int .i64 1)),(.val (.int .i64 ((b.toNat:Int)))),(.val (.string e0)),(.val (.int .i64 w.dev)),(.val (.int .i64 w.seq)),(.val (.int .i64 (n+i))),(.val (.int .i64 w.time)),(.val (.int .i64 ((upI w n up i).dot.dev))),(.val (.int .i64 ((upI w n up i).dot.seq))),(.val (.int .i64 ((upI w n up i).at_))),(.val (.bool false))]] (.agg [(.val (.int .i64 w.dev)),(.val (.int .i64 w.seq)),(.val (.int .i64 (n+i)))]):=nE (tyE w n up i b)
theorem type_spec (c:Cl) (s:ByteArray) (w:Sp) (d:Dt) (at_:Int) (hl:c.parts.length<1000000000000) (hs:s.size<1000000):PF Tryz.prog 250 [.agg c.cells,(.val (.string s)), .agg w.cells, .agg d.cells,(.val (.int .i64 at_))] (.tup [.agg (typeP c s w ⟨d,at_⟩).1.cells,(.val (.int .i64 ((typeP c s w ⟨d,at_⟩).2)))]):=by
 intro st
 by_cases hr:rightP c=0
 ·have hW:=(jP hr).2.2.1
  have hwr:=afA (c:=c) (w:=w) hW.formed
  have hr0:=hr
  obtain ⟨tyL,htl⟩:∃t,tyF w s.data.toList (dI c w) ⟨d,at_⟩=t:=⟨_,rfl⟩
  have hty0:tyL.length=s.size:=by rw [<-htl,qW];rfl
  refine cB aF Tryz.func250 (by kernel_rfl) rfl rfl rfl rfl ?_
  (try apply wO pk;rfl);(repeat' first|show Cn _;constructor|apply wC pk;rfl;rfl|apply wE pk;rfl;rfl|refine aB rfl ?_ ?_<;>intro h<;>(try simp at h)<;>try omega|(refine aC ?_;first|refine ⟨_,_,_,rfl,zwr _,zsr _, ?_,rfl⟩;(fail)|refine ⟨_,_,_,rfl,zwr _,aL ‹_›, ?_,rfl⟩;(fail)|(refine ⟨_,_,_,rfl,zwf _,zsr _, ?_,rfl⟩;(((first|have e:typeP c s w ⟨d,at_⟩=(Cl.zero,1):=(by unfold typeP;grind);rw [e];rfl|have e:typeP c s w ⟨d,at_⟩=(Cl.zero,2):=(by unfold typeP;grind);rw [e];rfl|have e:typeP c s w ⟨d,at_⟩=(Cl.zero,eS c w ⟨d,at_⟩):=(by unfold typeP;grind);rw [e];rfl);done)))|refine ⟨_,_,_,rfl,zwf _,aL ‹_›, ?_,rfl⟩;(fail)|(refine ⟨_,_,_,rfl,zwr _,zsr _, ?_,rfl⟩)|(refine ⟨_,_,_,rfl,zwf _,aL ‹_›, ?_,rfl⟩))|(apply aH;rfl;rfl;rfl;(intro _;(first|apply (right_spec c (by omega))|apply (aiA c w hl hW.formed)|apply (ajH c w ⟨d,at_⟩ hl))<;>first|assumption|omega);rotate_left;rfl;rfl)|(apply cD;rfl;rfl;(apply (vK c.parts _ hl)<;>first|exact aA _ _ _|assumption|omega|(fail));rfl;rfl;rfl;intro _ st' hR;obtain ⟨id,rfl,hid,rfl⟩:=hR)|intros;(try simp only [zql]);omega)
  ·have hid:st id=none:=hid
   refine aK (X:={x:Nat×Nat//x.1<=s.size/\st x.2=none}) (λi=>((((((((((St.nil 103 (upd st i.1.2 (some (.arr 190 ((c.parts++tyL.take i.1.1).map Pt.cells))))).pv 1 ((PV.val (Value.string (s))))).var 5 80 (c.cells)).var 7 47 (w.cells)).var 10 80 ([(PV.val (Value.int .i64 (0))),(PV.val (Value.int .i64 (0))),(PV.val (Value.int .i64 (0))),(PV.val (Value.string (e0))), .val (.slice none 0 0)])).pv 13 ((PV.val (Value.int .i64 (dI c w))))).var 14 351 ([(PV.val (Value.int .i64 ((upI w (dI c w) ⟨d,at_⟩ i.1.1).dot.dev))),(PV.val (Value.int .i64 ((upI w (dI c w) ⟨d,at_⟩ i.1.1).dot.seq))),(PV.val (Value.int .i64 ((upI w (dI c w) ⟨d,at_⟩ i.1.1).at_)))])).pv 16 (.vec i.1.2 11 0 (c.parts.length+i.1.1))).pv 68 ((PV.val (Value.int .i64 ((s.size:Nat)))))).pv 69 ((PV.val (Value.int .i64 ((i.1.1:Nat))))))) (λi=>s.size-i.1.1) ⟨(0,id),by simp,hid⟩ ?_ (λi=> ?_)
   ·dsimp only
    rw [List.take_zero,List.append_nil]
    (((repeat (first|refine Sub.pv ?_ rfl|refine Sub.var ?_ rfl rfl));(exact Sub.nil _ _ _ (zsr _) rfl)))
   obtain ⟨⟨i,id⟩,hi,hid⟩:=i
   simp only at hi hid
   dsimp only
   have hlen:(c.parts++tyL.take i).length=c.parts.length+i:=by rw [zla,zlt];omega
   have hlen2:((c.parts++tyL.take i).map Pt.cells).length=c.parts.length+i:=by rw [zql,hlen]
   by_cases him:i<s.size
   ·have hb:s[i]?=some s[i]:=getElem?_pos s i him
    have hp:=asA w s.data.toList (dI c w) ⟨d,at_⟩ i s[i] (by rw [<-hb];simp [him];rfl)
    rw [htl] at hp
    have hsplit:tyL.take (i+1)=tyL.take i++[tyE w (dI c w) ⟨d,at_⟩ i s[i]]:=by rw [List.take_add_one,hp];rfl
    (try apply wO pk;rfl);(repeat' first|show Cn _;constructor|apply wC pk;rfl;rfl|apply wE pk;rfl;rfl|apply wDx pk;rfl;kernel_rfl;rfl;rfl|refine aB rfl ?_ ?_<;>intro h<;>(try simp at h)<;>try omega|(apply aH;rfl;rfl;rfl;(intro _;apply (aFH w (dI c w) ⟨d,at_⟩ i s[i])<;>first|assumption|omega);rotate_left;rfl;rfl)|(apply apV pk (f:=Pt.cells) [tyE w (dI c w) ⟨d,at_⟩ i s[i]] 96;(iterate 9 rfl);(exact aA _ _ _);(omega);exact λ_=>rfl;exact λ_=>rfl;exact zF;((focus (simp;omega)));((focus (simp;omega)));rfl;intro id' hid')|apply cvA pk.htt;(iterate 5 rfl);(refine ⟨?_, ?_⟩<;>(first|omega|have q:=(s[i]'him).toNat_lt;omega));rfl|apply sxA pk.htt i s[i];(iterate 6 rfl);exact hb;rfl|(refine ⟨⟨(i+1,id'),by simp only;omega,iO hid'⟩, ?_,by simp only;omega⟩;((dsimp only;rw [hsplit,<-List.append_assoc]));(((repeat (first|refine Sub.pv ?_ rfl|refine Sub.var ?_ rfl rfl|refine Sub.var' ?_ rfl rfl (by (first|rfl|(focus (simp [upI];omega))))));(exact Sub.nil _ _ _ (cR ‹_›) rfl))))|intros;(try simp only [zql]);omega)
   ·have hfin:tyL.take i=tyL:=ztl (by omega)
    rw [hfin]
    have hty:typeP c s w ⟨d,at_⟩=({c with parts:=dD (c.parts++tyL)},0):=by
     unfold typeP;rw [zn (by omega),zn (by omega),zn (by omega),zn (by omega),<-htl]
    (try apply wO pk;rfl);(repeat' first|refine aC ?_;refine ⟨_,_,st,rfl,zwr _,bN (bN (zsr _) hid) hid, ?_,rfl⟩;rw [hty];rfl|show Cn _;constructor|apply wC pk;rfl;rfl|apply wE pk;rfl;rfl|refine aB rfl ?_ ?_<;>intro h<;>(try simp at h)<;>try omega|(apply aH;rfl;rfl;rfl;(intro _;apply (aaZ (c.parts++tyL) (by rw [hfin] at hlen;omega))<;>first|assumption|omega);rotate_left;rfl;rfl)|apply aDL 99;rfl;exact aA _ _ _;(rw [hfin] at hlen2;exact hlen2);exact anE)
 ·refine cB aF Tryz.func250 (by kernel_rfl) rfl rfl rfl rfl ?_
  (try apply wO pk;rfl);(repeat' first|show Cn _;constructor|apply wC pk;rfl;rfl|apply wE pk;rfl;rfl|refine aB rfl ?_ ?_<;>intro h<;>(try simp at h)<;>try omega|(refine aC ?_;first|refine ⟨_,_,_,rfl,zwr _,zsr _, ?_,rfl⟩;(fail)|refine ⟨_,_,_,rfl,zwr _,aL ‹_›, ?_,rfl⟩;(fail)|refine ⟨_,_,_,rfl,zwf _,zsr _, ?_,rfl⟩;(((have e:typeP c s w ⟨d,at_⟩=(Cl.zero,rightP c):=(by unfold typeP;rw [zp hr]);rw [e];rfl);done))|refine ⟨_,_,_,rfl,zwf _,aL ‹_›, ?_,rfl⟩;(fail)|(refine ⟨_,_,_,rfl,zwr _,zsr _, ?_,rfl⟩)|(refine ⟨_,_,_,rfl,zwf _,aL ‹_›, ?_,rfl⟩))|(apply aH;rfl;rfl;rfl;(intro _;apply (right_spec c (by omega))<;>first|assumption|omega);rotate_left;rfl;rfl))
end Go.Proofs.YtloecjjehapblaaGreatDoor.T
