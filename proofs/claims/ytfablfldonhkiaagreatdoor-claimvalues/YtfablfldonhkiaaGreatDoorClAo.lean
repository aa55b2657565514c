import Derived.Test.YtfablfldonhkiaaGreatDoorClAn
import Derived.Test.YtfablfldonhkiaaGreatDoorClAe
import Derived.Test.YtfablfldonhkiaaGreatDoorClAk
import Derived.Test.YtfablfldonhkiaaGreatDoorClAl
import Derived.Test.YtfablfldonhkiaaGreatDoorAbsK
import Derived.Test.YtfablfldonhkiaaGreatDoorAbsG
set_option linter.unusedSimpArgs false
set_option linter.unusedVariables false
namespace Go.Proofs.YtfablfldonhkiaaGreatDoor
open Go Go.Abs
section
set_option maxRecDepth 10000
set_option maxHeartbeats 4000000
def apJ (t:Tb) (G:R2->Bool) (l:Ln) (c:Int):Bool:=t.foreign.any λf=>decide (f.col=c)&&dW G l f
theorem atF {t:Tb} {G:R2->Bool} {l:Ln} {c:Int}:apJ t G l c=true↔∃f∈t.foreign,f.col=c/\dW G l f=true:=by
 unfold apJ
 rw [List.any_eq_true]
 simp only [zba,zde]
theorem aB5 (t:Tb) (G:R2->Bool) (who:Dt) (l:Ln):(kU t G who l).key=l.key:=by unfold kU;split<;>rfl
theorem aAE {s:Sc} {b:Bs} {G:R2->Bool} {who:Dt} {k:Nat} (hk:k<b.length):(yO s b G who)[k]!.lines=qS s b G who k:=by
 have h:k<(yO s b G who).length:=by simpa [yO] using hk
 rw [getElem!_pos _ k h]
 simp [yO]
theorem agO (s:Sc) (b:Bs) (G:R2->Bool) (who:Dt):(yO s b G who).length=b.length:=by simp [yO]
theorem ajY {s:Sc} {b:Bs} {G:R2->Bool} {who:Dt} {k:Nat} {x:Ln}:x∈qS s b G who k↔∃l∈b[k]!.lines,G ((k:Int),l.key)=false/\x=kU s[k]! G who l:=by
 unfold qS
 simp only [List.mem_map,List.mem_filter,Bool.not_eq_true']
 exact ⟨λ⟨l,⟨h1,h2⟩,e⟩=>⟨l,h1,h2,e.symm⟩,λ⟨l,h1,h2,e⟩=>⟨l,⟨h1,h2⟩,e.symm⟩⟩
section
variable {s:Sc} {b:Bs} {G:R2->Bool} {who:Dt}
end
end
section
attribute [local irreducible] Ev PWp
set_option maxRecDepth 10000
set_option maxHeartbeats 4000000
theorem aeL (a:Ln) (d:Dt):(cZ a d).by_.length<=a.by_.length+1:=by
 unfold cZ
 split
 ·omega
 ·show (cD a.by_ (fP a.by_ d) [d]).length<=_
  rw [qP (anH _ _)];exact Nat.le_refl _
theorem acD {l:List Dt}:xN l=true↔(∀x∈l,fD x=true)/\awW l:=by
 unfold xN
 rw [pZ]
 constructor
 ·intro h
  refine ⟨λx hx=> ?_,aGl λk hk=> ?_⟩
  ·obtain ⟨k,hk,rfl⟩:=zgo hx
   have:=h k hk
   unfold adM at this
   rw [getElem!_pos l k hk,zba] at this
   exact this.1
  ·have:=h k hk
   unfold adM at this
   rw [zba] at this
   exact this.2
 ·rintro ⟨h1,h2⟩ k hk
  unfold adM
  rw [getElem!_pos l k hk,h1 _ (zgm hk),Bool.true_and]
  rcases Nat.eq_zero_or_pos k with rfl|h0
  ·rfl
  ·rw [getElem!_pos l (k-1) (by omega),List.pairwise_iff_getElem.1 h2 (k-1) k (by omega) hk (by omega)]
   simp
theorem acU {a:Ln} {d:Dt} (h:xN a.by_=true) (hd:fD d=true):xN (cZ a d).by_=true:=by
 obtain ⟨h1,h2⟩:=acD.1 h
 rw [aCF]
 refine acD.2 ⟨λx hx=> ?_,ayA h2 d⟩
 rcases (aA0 _ _ _).1 hx with rfl|q
 ·exact hd
 ·exact h1 x q
theorem axG {tx:Cl->Int}:iU tx Cl.zero=true:=by
 unfold iU
 rw [zp (show Cl.zero.kind=0 from rfl)]
 decide
theorem aEj {tx:Cl->Int} {s:Sc} {t:Tb} (hfr:∀f∈t.foreign,FrOK s t f) {G:R2->Bool} {who:Dt} {l:Ln} (h:LineOK tx t l) (hd:fD who=true):LineOK tx t (kU t G who l):=by
 unfold kU
 split
 ·obtain ⟨k1,k2,ln,kd,ce,ze,ds⟩:=h
  have hat:∀j (hj:j<l.cells_.length),∃p:Prop,∃_:Decidable p,(eK (dW G l) t.foreign l.cells_)[j]'(by rw [dA];exact hj)=(if p then Cl.zero else l.cells_[j])/\(p->1<=j/\t.cols[j]!.kind=0):=λj hj=>⟨_,_,nZ hj,λhp=>by
   obtain ⟨f,hf,hc,_⟩:=atF.1 (show apJ t G l j=true from hp)
   have q:=hfr f hf
   have q1:=q.c1
   have q2:=q.kind
   refine ⟨by omega, ?_⟩
   rwa [show f.col.toNat=j by omega] at q2⟩
  refine ⟨k1,k2,by rw [<-ln];exact dA ..,λj hj=> ?_,λc hc=> ?_, ?_,acU ds hd⟩
  ·have hj:j<(eK (dW G l) t.foreign l.cells_).length:=hj
   rw [dA] at hj
   obtain ⟨p,_,e,hp⟩:=hat j hj
   show (eK (dW G l) t.foreign l.cells_)[j].kind=_
   rw [e]
   split
   ·rename_i hpp;rw [(hp hpp).2];rfl
   ·exact kd j hj
  ·obtain ⟨j,hj,rfl⟩:=zgo hc
   have hj:j<(eK (dW G l) t.foreign l.cells_).length:=hj
   rw [dA] at hj
   obtain ⟨p,_,e,hp⟩:=hat j hj
   show iU tx (eK (dW G l) t.foreign l.cells_)[j]=true
   rw [e]
   split
   ·exact axG
   ·exact ce _ (zgm hj)
  ·show (eK (dW G l) t.foreign l.cells_)[0]!.val=_
   rw [<-ze]
   by_cases hj:0<l.cells_.length
   ·obtain ⟨p,_,e,hp⟩:=hat 0 hj
    rw [getElem!_pos _ 0 (by rw [dA];exact hj),getElem!_pos l.cells_ 0 hj,e,zn λq=>absurd (hp q).1 (by omega)]
   ·have:l.cells_=[]:=List.eq_nil_of_length_eq_zero (by omega)
    rw [this];rfl
 ·exact h
theorem ayU {s:Sc} {b:Bs} {G:R2->Bool} {who:Dt} {k:Nat} (h:KSort b[k]!.lines):KSort (qS s b G who k):=by
 unfold KSort qS
 rw [List.map_map,show ((λl:Ln=>l.key)∘kU s[k]! G who)=λl=>l.key from funext λl=>aB5 _ _ _ _]
 unfold KSort at h
 exact h.sublist (List.Sublist.map _ List.filter_sublist)
theorem aDq {tx:Cl->Int} {s:Sc} {b:Bs} (h:bH tx s b=true) {G:R2->Bool} {who:Dt} (hd:fD who=true):bH tx s (yO s b G who)=true:=by
 obtain ⟨⟨h1,h2⟩,h3⟩:=aU.1 h
 refine aU.2 ⟨⟨h1,by rw [agO];exact h2⟩,λk hk=> ?_⟩
 rw [agO] at hk
 rw [aAE hk]
 have hd3:=h3 k hk
 rw [getElem!_pos b k hk] at hd3
 obtain ⟨q1,q2,q3⟩:=fZ.1 hd3
 have hks:k<s.length:=by omega
 refine fZ.2 ⟨?_,λx hx=> ?_,ayU (by rw [getElem!_pos b k hk];exact q3)⟩
 ·unfold qS
  rw [zql,getElem!_pos b k hk]
  exact Nat.le_trans (List.length_filter_le ..) q1
 ·obtain ⟨l,hl,_,rfl⟩:=ajY.1 hx
  rw [getElem!_pos b k hk] at hl
  refine yZ.2 (aEj (s:=s) (λf hf=> ?_) (yZ.1 (q2 l hl)) hd)
  rw [getElem!_pos s k hks] at hf⊢
  exact avP h1 hks hf
end
section
set_option maxRecDepth 10000
set_option maxHeartbeats 4000000
structure Ot where
 kind:Int
 table:Int
 key:Int
 col:Int
 row:List Vl
 val:Vl
 after:Dt
 at_:Int
def Ot.cells (o:Ot):List PV:=[(vi (o.kind)),(vi (o.table)),(vi (o.key)),(vi (o.col)), .seq (o.row.map Vl.cells),(vi (o.val.kind)),(vi (o.val.n)),(vs (o.val.s)),(vi (o.after.dev)),(vi (o.after.seq)),(vi (o.at_))]
structure Wr where
 who:T.Sp
 knew:List Int
def Wr.dot (w:Wr):Dt:=⟨w.who.dev,w.who.seq⟩
def Wr.cells (w:Wr):List PV:=[(vi (w.who.time)),(vi (w.who.dev)),(vi (w.who.seq)), .seq (w.knew.map I1)]
def sD (o:Ot):Bool:=decide (o.col=0/\o.val=Vl.zero/\o.after=Dt.zero/\o.at_=0)
def ayH (n:Int):Bool:=decide (0<=n)&&decide (n<=1073741823)
def atC (t:Tb) (o:Ot):Int:=if o.key≠0\/sD o=false then 1 else if eH t o.row≠0 then eH t o.row else if o.row.length=0\/ayH o.row[0]!.n=false then 1 else 0
def rL (c:Co) (o:Ot):Int:=if (o.kind=7/\o.val≠Vl.zero)\/bX o.val=false then 1 else if o.kind=7 then 0 else if o.kind=2/\o.val.kind=0 then (if c.null=true then 0 else 7) else if (o.kind=2/\o.val.kind≠c.type_)\/(o.kind=6/\o.val.kind≠2) then 6 else if o.kind≠2/\o.kind≠6/\o.val.kind≠1 then 6 else 0
def ahY (o:Ot):Bool:=if o.after=Dt.zero/\o.at_=0 then decide (o.kind≠7) else decide (o.kind=6\/o.kind=7)&&T.mayN ⟨o.after,o.at_⟩
def afQ (k c:Int):Bool:=if k=2 then decide (c=0\/c=1) else if k=3 then decide (c=2) else if k=4\/k=5 then decide (c=3) else if k=6\/k=7 then decide (c=4) else false
def abA (t:Tb) (o:Ot):Int:=if o.col<0\/o.col>=t.cols.length then 4 else if o.col=0 then 1 else if afQ o.kind t.cols[o.col.toNat]!.kind=false then 6 else if rL t.cols[o.col.toNat]! o≠0 then rL t.cols[o.col.toNat]! o else if ahY o=false then 1 else 0
def fY (s:Sc) (o:Ot):Int:=if o.kind<1\/o.kind>8 then 1 else if o.table<0\/o.table>=s.length then 4 else if o.kind=1 then atC s[o.table.toNat]! o else if o.row.length>0\/ayH o.key=false then 1 else if o.kind≠8 then abA s[o.table.toNat]! o else if sD o=false then 1 else 0
def okV (n:Int):Bool:=decide (0<=n)&&decide (n<=1048576)
def aBB (v:List Int):Bool:=decide (v.length<=64)&&v.all okV
def ofV (v:List Int) (d:Int):Int:=if d<1\/d>v.length then 0 else v[(d-1).toNat]!
def anJ (v:List Int) (d:Dt):Bool:=decide (d.seq>=1)&&decide (d.seq<=ofV v d.dev)
def ptN (v:Vl) (d:Dt):Pt:=⟨v,d,0,0,Dt.zero,0,false⟩
def rS (d:Dt) (kn:List Int) (p:Pt):Bool:=decide (p.dot≠d)&& !anJ kn p.dot
def adD {α:Type} (f:α->Bool) (l:List α):Nat:=(l.findIdx? f).getD l.length
def gW (c:Cl) (v:Vl) (d:Dt) (kn:List Int):Cl:=⟨c.kind,c.val,dH (c.parts.filter (rS d kn)) (adD (λp=>bA p.dot d) (c.parts.filter (rS d kn))) [ptN v d]⟩
def nV (n:Int):Vl:=⟨1,n,e0⟩
def rR (n:Int) (d:Dt) (p:Pt):Bool:=decide (p.val.n=n)&&decide (p.dot=d)
def nL (c:Cl) (n:Int) (d:Dt):Cl:=if c.parts.any (rR n d)=true then c else ⟨c.kind,c.val,dH c.parts (adD (λp=>dY p (ptN (nV n) d)) c.parts) [ptN (nV n) d]⟩
def rZ (n:Int) (d:Dt) (kn:List Int) (p:Pt):Bool:=decide (p.val.n≠n)||(decide (p.dot≠d)&& !anJ kn p.dot)
def rW (c:Cl) (n:Int) (d:Dt) (kn:List Int):Cl:=⟨c.kind,c.val,c.parts.filter (rZ n d kn)⟩
def oW (n:Int):Cl:=⟨2,nV n,[]⟩
def tK (c:Cl) (n:Int):Cl×Int:=if cI c≠0 then (Cl.zero,cI c) else if cI (oW n)≠0 then (Cl.zero,cI (oW n)) else if cI (oW (c.val.n+n))≠0 then (Cl.zero,cI (oW (c.val.n+n))) else (oW (c.val.n+n),0)
def kK (w:Wr) (kind:Int) (v:Vl):Cl×Int:=if kind=0 then (⟨0,v,[]⟩,0) else if kind=2 then tK (oW 0) v.n else if kind=4 then T.typeP ⟨4,Vl.zero,[]⟩ v.s w.who T.Nm.zero else if v.kind=0 then (⟨kind,Vl.zero,[]⟩,0) else if kind=3 then (nL ⟨kind,Vl.zero,[]⟩ v.n w.dot,0) else (gW ⟨kind,Vl.zero,[]⟩ v w.dot w.knew,0)
def eR (w:Wr) (c:Cl) (o:Ot):Cl×Int:=if o.kind=2 then (if c.kind=0 then (⟨0,o.val,[]⟩,0) else (gW c o.val w.dot w.knew,0)) else if o.kind=3 then tK c o.val.n else if o.kind=4 then (nL c o.val.n w.dot,0) else if o.kind=5 then (rW c o.val.n w.dot w.knew,0) else if o.kind=6 then T.typeP c o.val.s w.who ⟨o.after,o.at_⟩ else (T.eraseP c ⟨o.after,o.at_⟩,0)
def oD (w:Wr) (t:Tb) (r:List Vl) (i:Nat):Cl×Int:=kK w t.cols[i]!.kind r[i]!
def lH (w:Wr) (t:Tb) (r:List Vl):Int:=dZ (λi=>(oD w t r i).2) (List.range r.length)
def eS (w:Wr) (t:Tb) (r:List Vl):Ln:=⟨r[0]!.n,(List.range r.length).map λi=>(oD w t r i).1,[w.dot]⟩
def rK (w:Wr) (o:Ot) (l:Ln):Ln:=cZ ⟨l.key,l.cells_.set o.col.toNat (eR w l.cells_[o.col.toNat]! o).1,l.by_⟩ w.dot
def aGj (w:Wr) (s:Sc) (b:Bs) (o:Ot):Bs×Int:=if (bE (aF b o.table) o.row[0]!.n).isSome=true then ([],8) else if (aF b o.table).length>=2000 then ([],2) else if lH w s[o.table.toNat]! o.row≠0 then ([],lH w s[o.table.toNat]! o.row) else (tM b o.table (eS w s[o.table.toNat]! o.row),0)
def auV (w:Wr) (b:Bs) (o:Ot):Bs×Int:=match bE (aF b o.table) o.key with
 |none=>([],4)
 |some l=>if (eR w l.cells_[o.col.toNat]! o).2≠0 then ([],(eR w l.cells_[o.col.toNat]! o).2) else (tM b o.table (rK w o l),0)
def bS (w:Wr) (s:Sc) (b:Bs) (o:Ot):Bs×Int:=if fY s o≠0 then ([],fY s o) else if o.kind=1 then aGj w s b o else if o.kind=8 then vT true s b (o.table,o.key) w.dot (tV s b (o.table,o.key)) else auV w b o
def pG (w:Wr):Bool:=((T.withinB w.who.time 1 1125899906842624&&T.withinB w.who.dev 1 64)&&T.withinB w.who.seq 1 1048576)&&aBB w.knew
noncomputable def rightW (w:Wr) (s:Sc) (b:Bs):Bool:=mayC s b&&pG w
noncomputable def doP (w:Wr) (s:Sc) (b:Bs) (o:Ot):Bs×Int:=if rightW w s b=true then bS w s b o else ([],1)
def aS (w:Wr) (s:Sc):Bs->List Ot->Bs×Int
 |b,[]=>(b,0)
 |b,o::r=>if (bS w s b o).2≠0 then ([],(bS w s b o).2) else aS w s (bS w s b o).1 r
noncomputable def fG (w:Wr) (s:Sc) (b:Bs) (l:List Ot):Bs×Int:=if rightW w s b=false then ([],1) else if l.length>2000 then ([],2) else if (aS w s b l).2≠0 then ([],(aS w s b l).2) else if whyC s (aS w s b l).1≠0 then ([],whyC s (aS w s b l).1) else ((aS w s b l).1,0)
end
section
attribute [local irreducible] Ev PWp
set_option maxRecDepth 10000
set_option maxHeartbeats 4000000
theorem dP (n a b:Int):PF Tryz.prog 109 [(vi (n)),(vi (a)),(vi (b))] (vb (T.withinB n a b)):=by
 refine pF Tryz.func109 rfl (λst=> ?_)
 (repeat' first|apply wZ;rfl|show Cn _;constructor|exact rfl)
theorem mZ (n:Int):PF Tryz.prog 112 [(vi (n))] (vb (ayH n)):=by
 have h:=dP n 0 1073741823
 refine pF Tryz.func112 rfl (λst=> ?_)
 (repeat' first|apply wZ;rfl|show Cn _;constructor|exact rfl|(apply h)|apply wY;rfl)
theorem aH6 (d:Dt):(decide (d.dev=0)&&decide (d.seq=0))=decide (d=Dt.zero):=by
 rw [Bool.eq_iff_iff];simp [Dt.ext_iff,Dt.zero]
theorem aGS (v:Vl):(decide (v.kind=0)&&(decide (v.n=0)&&decide (v.s=e0)))=decide (v=Vl.zero):=by
 rw [Bool.eq_iff_iff];simp [Vl.ext_iff,Vl.zero]
theorem aaQ (o:Ot):PF Tryz.prog 114 [.agg o.cells] (vb (sD o)):=by
 have e:sD o=(((decide (o.col=0)&&decide (o.val=Vl.zero))&&decide (o.after=Dt.zero))&&decide (o.at_=0)):=by unfold sD;rw [Bool.eq_iff_iff];simp [and_assoc]
 rw [e,<-aH6,<-aGS]
 refine pF Tryz.func114 rfl (λst=> ?_)
 (repeat' first|apply wZ;rfl|show Cn _;constructor|exact rfl)
theorem aiP (t:Tb) (o:Ot) (hr:PF Tryz.prog 82 [.seq (t.cols.map Co.cells), .seq (o.row.map Vl.cells)] (vi (eH t o.row))):PF Tryz.prog 111 [.agg t.cells, .agg o.cells] (vi (atC t o)):=by
 have hb:=aaQ o
 unfold atC
 generalize eH t o.row=R at*
 generalize sD o=B at*
 by_cases h0:o.key≠0\/B=false
 ·rw [zp h0]
  refine pF Tryz.func111 rfl (λst=> ?_)
  (repeat' first|exfalso;revert h0;simp_all;done|apply wZ;rfl|show Cn _;constructor|exact rfl|(apply hb)|apply wY;rfl|(intro h;simp at h))
 rw [zn h0]
 simp only [not_or,Decidable.not_not,Bool.not_eq_false] at h0
 obtain ⟨h0,rfl⟩:=h0
 by_cases h1:R≠0
 ·rw [zp h1]
  refine pF Tryz.func111 rfl (λst=> ?_)
  (repeat' first|apply wZ;rfl|show Cn _;constructor|exact rfl|((first|apply hb|apply hr))|apply wY;rfl|omega|intro h;simp at h;omega|(intro h;simp at h)|intro h)
 rw [zn h1]
 have h1:=zdn h1
 by_cases h2:o.row.length=0
 ·rw [zp (.inl h2)]
  refine pF Tryz.func111 rfl (λst=> ?_)
  (repeat' first|apply wZ;rfl|show Cn _;constructor|exact rfl|((first|apply hb|apply hr|apply (mZ 0)))|apply cN pk (j:=0) (row:=Vl.zero.cells);(iterate 6 rfl);rotate_left;rfl;(intro hw;exact absurd hw (by simp [gw,h2]));(intro hw;exact absurd hw (by simp [gw,h2]));(intro hw;exact absurd hw (by simp [gw,h2]));rfl|apply wY;rfl|omega|exfalso;simp_all;done|intro h;simp at h;omega|(intro h;simp at h)|intro h)
 have hpos:0<o.row.length:=by omega
 have hk:=mZ o.row[0].n
 rw [getElem!_pos o.row 0 hpos]
 generalize ayH o.row[0].n=K at*
 cases K with
 |false=>
  rw [zp (.inr rfl)]
  refine pF Tryz.func111 rfl (λst=> ?_)
  (repeat' first|apply wZ;rfl|show Cn _;constructor|exact rfl|((first|apply hb|apply hr|apply hk))|apply wY;rfl|apply wI;rfl|apply gE;omega|omega|intro h;simp at h;done|intro h;simp at h;omega|(intro h;simp at h)|intro h)
 |true=>
  rw [zn (by rintro (q|q);omega;cases q)]
  refine pF Tryz.func111 rfl (λst=> ?_)
  (repeat' first|apply wZ;rfl|show Cn _;constructor|exact rfl|((first|apply hb|apply hr|apply hk))|apply wY;rfl|apply wI;rfl|apply gE;omega|omega|exfalso;simp_all;done|intro h;simp at h;omega|(intro h;simp at h)|intro h)
theorem aAJ (c:Co) (o:Ot):PF Tryz.prog 173 [.agg c.cells, .agg o.cells] (vi (rL c o)):=by
 have hv:=iZ o.val
 have hz:=aGS o.val
 unfold rL
 generalize bX o.val=V at*
 generalize hZ:decide (o.val=Vl.zero)=Z at*
 have hZ1:o.val≠Vl.zero↔Z=false:=by rw [<-hZ];simp
 by_cases h0:(o.kind=7/\o.val≠Vl.zero)\/V=false
 ·rw [zp h0]
  rw [hZ1] at h0
  refine pF Tryz.func173 rfl (λst=> ?_)
  (repeat' first|apply wZ;rfl|show Cn _;constructor|exact rfl|(apply hv)|apply wY;rfl|omega|(exfalso;grind)|(intro h;simp at h)|intro h)
 rw [zn h0]
 rw [hZ1] at h0
 by_cases h7:o.kind=7
 ·rw [zp h7]
  refine pF Tryz.func173 rfl (λst=> ?_)
  (repeat' first|apply wZ;rfl|show Cn _;constructor|exact rfl|(apply hv)|apply wY;rfl|omega|(exfalso;grind)|(intro h;simp at h)|intro h)
 rw [zn h7]
 by_cases h2:o.kind=2/\o.val.kind=0
 ·rw [zp h2]
  obtain ⟨h2,h3⟩:=h2
  cases hn:c.null
  ·rw [zn (by simp)]
   refine pF Tryz.func173 rfl (λst=> ?_)
   (repeat' first|apply wZ;rfl|show Cn _;constructor|exact rfl|(apply hv)|apply wY;rfl|omega|(exfalso;grind)|intro h;simp at h;omega|(intro h;simp at h)|intro h)
  ·rw [zp rfl]
   refine pF Tryz.func173 rfl (λst=> ?_)
   (repeat' first|apply wZ;rfl|show Cn _;constructor|exact rfl|(apply hv)|apply wY;rfl|omega|(exfalso;grind)|intro h;simp at h;omega|(intro h;simp at h)|intro h)
 rw [zn h2]
 by_cases h3:(o.kind=2/\o.val.kind≠c.type_)\/(o.kind=6/\o.val.kind≠2)
 ·rw [zp h3]
  refine pF Tryz.func173 rfl (λst=> ?_)
  (repeat' first|apply wZ;rfl|show Cn _;constructor|exact rfl|(apply hv)|apply wY;rfl|omega|(exfalso;grind)|intro h;simp at h;omega|(intro h;simp at h)|intro h)
 rw [zn h3]
 by_cases h4:o.kind≠2/\o.kind≠6/\o.val.kind≠1
 ·rw [zp h4]
  refine pF Tryz.func173 rfl (λst=> ?_)
  (repeat' first|apply wZ;rfl|show Cn _;constructor|exact rfl|(apply hv)|apply wY;rfl|omega|(exfalso;grind)|intro h;simp at h;omega|(intro h;simp at h)|intro h)
 rw [zn h4]
 refine pF Tryz.func173 rfl (λst=> ?_)
 (repeat' first|apply wZ;rfl|show Cn _;constructor|exact rfl|(apply hv)|apply wY;rfl|omega|(exfalso;grind)|intro h;simp at h;omega|(intro h;simp at h)|intro h)
theorem aqB (o:Ot):PF Tryz.prog 174 [.agg o.cells] (vb (ahY o)):=by
 have h1:=dP o.after.dev 1 64
 have h2:=dP o.after.seq 1 1048576
 have h3:=dP o.at_ 0 1999
 unfold ahY T.mayN
 have e:(o.after=Dt.zero/\o.at_=0)↔((o.after.dev=0/\o.after.seq=0)/\o.at_=0):=by rw [Dt.ext_iff];rfl
 by_cases h:o.after=Dt.zero/\o.at_=0
 ·rw [zp h]
  rw [e] at h
  obtain ⟨⟨a1,a2⟩,a3⟩:=h
  refine pF Tryz.func174 rfl (λst=> ?_)
  (repeat' first|apply wZ;rfl|show Cn _;constructor|exact rfl|show (_:PV)=_;(simp;done);done|intro h;simp at h;omega|(intro h;simp at h))
 ·rw [zn h]
  rw [e] at h
  generalize T.withinB o.after.dev 1 64=A at*
  generalize T.withinB o.after.seq 1 1048576=B at*
  generalize T.withinB o.at_ 0 1999=C at*
  refine pF Tryz.func174 rfl (λst=> ?_)
  (repeat' first|apply wZ;rfl|show Cn _;constructor|exact rfl|((first|apply h1|apply h2|apply h3))|show (_:PV)=_;(by_cases q6:o.kind=6<;>by_cases q7:o.kind=7<;>simp_all;done);done|apply wY;rfl|intro h;simp at h;omega|(intro h;simp at h))
def aDE :List (Value×PV):=[(.int .i64 2, .seq [I1 0,I1 1]),(.int .i64 3, .seq [I1 2]),(.int .i64 4, .seq [I1 3]),(.int .i64 5, .seq [I1 3]),(.int .i64 6, .seq [I1 4]),(.int .i64 7, .seq [I1 4])]
theorem lQ :PF Tryz.prog 172 [] (.fmap aDE):=by
 refine pF Tryz.func172 rfl (λst=> ?_)
 focus ((repeat' first|apply iS 0;rfl;exact aA _ _ _|((exact Cn.any ⟨_,_,st,rfl,zwr _,StSub.via id hid (λj h=>by repeat (first|refine Eq.trans (aB h) ?_|exact rfl)),rfl,rfl⟩))|apply wZ;rfl|show Cn _;constructor|((refine oH rfl (λid hid=> ?_)))|apply qX aQ;exact .inl rfl;(iterate 7 rfl);exact aA _ _ _;rfl))
def zR (k:Int):List Int:=if k=2 then [0,1] else if k=3 then [2] else if k=4\/k=5 then [3] else if k=6\/k=7 then [4] else []
theorem axF (k:Int):(zR k).length<=2:=by
 unfold zR
 (repeat' split)<;>simp
theorem aDi (k c:Int):((zR k).any λy=>decide (c=y))=afQ k c:=by
 unfold zR afQ
 repeat' split
 all_goals first|rfl|(rw [Bool.eq_iff_iff];simp)
theorem alD {k:Int} (h1:2<=k) (h2:k<=7):gM tt 229 aDE (.int .i64 k) false=some (.seq ((zR k).map I1)):=by
 have:k=2\/k=3\/k=4\/k=5\/k=6\/k=7:=by omega
 rcases this with rfl|rfl|rfl|rfl|rfl|rfl<;>rfl
theorem acK (l:List Int) (x:Int) (hl:l.length<4611686018427387904):PF Tryz.prog 171 [.seq (l.map I1),(vi (x))] (vb (l.any λy=>decide (x=y))):=by
 have hx:PF Tryz.prog 237 [.seq (l.map I1),(vi (x))] (vi (cS (λy=>decide (x=y)) l)):=by
  refine pF Tryz.func237 rfl (λst=> ?_)
  (repeat' first|apply wZ;rfl|show Cn _;constructor)
  refine aC (X:={y:Nat//y<=l.length/\∀j (h:j<y) (h2:j<l.length),decide (x=l[j])=false}) (λi=>(((((St.nil 19 st).pv 0 (.seq (l.map I1))).pv 1 ((vi (x)))).pv 7 ((vi ((((l.map I1)).length:Nat))))).pv 8 ((vi ((i.1:Nat)))))) (λi=>l.length-i.1) ⟨0,by omega,by omega⟩ ?_ (λi=> ?_)
  ·(repeat' first|show Cn _;constructor|exact rfl)
  obtain ⟨i,h1,hinv⟩:=i
  dsimp only
  (repeat' first|(refine ⟨⟨i+1,by omega,λj h1 h2=>by rcases zls.1 h1 with q|q;exact hinv j q h2;subst q;exact decide_eq_false (by simp_all)⟩, ?_, ?_⟩)|apply wZ;rfl|show Cn _;constructor|exact rfl|show (_:PV)=_;(first|unfold cS;rw [nX (f:=λy=>decide (x=y)) ‹_› (by simp_all) hinv];done|(unfold cS;rw [nG (f:=λy=>decide (x=y)) ‹_› hinv]));done|apply wI;rfl|apply gE;omega|omega|simp only [zql];omega|(intro h;simp at h)|intro h)
 have e:decide (cS (λy=>decide (x=y)) l>=0)=l.any λy=>decide (x=y):=by
  unfold cS
  cases h:l.findIdx? (λy=>decide (x=y)) with
  |none=>
   have:=List.findIdx?_eq_none_iff.1 h
   rw [Bool.eq_iff_iff,List.any_eq_true]
   simp only [zde]
   constructor
   ·intro q;omega
   ·rintro ⟨y,hy,q⟩
    have:=this y hy
    simp [q] at this
  |some k=>
   obtain ⟨q1,q2,_⟩:=List.findIdx?_eq_some_iff_getElem.1 h
   rw [Bool.eq_iff_iff,List.any_eq_true]
   constructor
   ·exact λ_=>⟨_,zgm q1,q2⟩
   ·intro _;simp
 refine pF Tryz.func171 rfl (λst=> ?_)
 (repeat' first|apply wZ;rfl|show Cn _;constructor|exact rfl|(apply hx)|show (_:PV)=_;(rw [<-e]);done|apply wY;rfl)
theorem apR (t:Tb) (o:Ot) (ht:t.cols.length<1000000000000) (hk:2<=o.kind/\o.kind<=7):PF Tryz.prog 113 [.agg t.cells, .agg o.cells] (vi (abA t o)):=by
 obtain ⟨hk1,hk2⟩:=hk
 have hp:=aqB o
 have hlook:=alD hk1 hk2
 unfold abA
 by_cases h0:o.col<0\/o.col>=t.cols.length
 ·rw [zp h0]
  refine pF Tryz.func113 rfl (λst=> ?_)
  (repeat' first|apply wZ;rfl|show Cn _;constructor|exact rfl|intro h;simp at h;omega|(intro h;simp at h))
 rw [zn h0]
 by_cases h1:o.col=0
 ·rw [zp h1]
  refine pF Tryz.func113 rfl (λst=> ?_)
  (repeat' first|apply wZ;rfl|show Cn _;constructor|exact rfl|omega|intro h;simp at h;omega|(intro h;simp at h)|intro h)
 rw [zn h1]
 obtain ⟨j,hj⟩:∃j:Nat,o.col=j:=⟨o.col.toNat,by omega⟩
 have hjl:j<t.cols.length:=by omega
 rw [hj,Int.toNat_natCast,getElem!_pos t.cols j hjl]
 have hc:=acK (zR o.kind) t.cols[j].kind (by have:=axF o.kind;omega)
 rw [aDi] at hc
 have hv:=aAJ t.cols[j] o
 generalize rL t.cols[j] o=V at*
 generalize ahY o=Pl at*
 generalize afQ o.kind t.cols[j].kind=F at*
 generalize (zR o.kind).map I1=FL at*
 cases F with
 |false=>
  rw [zp rfl]
  refine pF Tryz.func113 rfl (λst=> ?_)
  (repeat' first|apply iX;(intro hw;exact hj);(apply gE;omega);rfl|apply wZ;rfl|show Cn _;constructor|exact rfl|apply KR.mk;kernel_rfl|((first|apply lQ|apply hc))|apply kW pk;(iterate 4 rfl);(focus repeat' constructor);rfl;exact hlook;rfl|apply wY;rfl|apply wI;rfl|omega|intro h;simp at h;omega|(intro h;simp at h)|intro h)
 |true=>
 rw [zn (by simp)]
 by_cases hV:V≠0
 ·rw [zp hV]
  refine pF Tryz.func113 rfl (λst=> ?_)
  (repeat' first|apply iX;(intro hw;exact hj);(apply gE;omega);rfl|apply wZ;rfl|show Cn _;constructor|exact rfl|apply KR.mk;kernel_rfl|((first|apply lQ|apply hc|apply hv))|apply kW pk;(iterate 4 rfl);(focus repeat' constructor);rfl;exact hlook;rfl|apply wY;rfl|apply wI;rfl|omega|intro h;simp at h;omega|(intro h;simp at h)|intro h)
 rw [zn hV]
 cases Pl with
 |false=>
  rw [zp rfl]
  refine pF Tryz.func113 rfl (λst=> ?_)
  (repeat' first|apply iX;(intro hw;exact hj);(apply gE;omega);rfl|apply wZ;rfl|show Cn _;constructor|exact rfl|apply KR.mk;kernel_rfl|((first|apply lQ|apply hc|apply hv|apply hp))|apply kW pk;(iterate 4 rfl);(focus repeat' constructor);rfl;exact hlook;rfl|apply wY;rfl|apply wI;rfl|omega|intro h;simp at h;omega|(intro h;simp at h)|intro h)
 |true=>
  rw [zn (by simp)]
  refine pF Tryz.func113 rfl (λst=> ?_)
  (repeat' first|apply iX;(intro hw;exact hj);(apply gE;omega);rfl|apply wZ;rfl|show Cn _;constructor|exact rfl|apply KR.mk;kernel_rfl|((first|apply lQ|apply hc|apply hv|apply hp))|apply kW pk;(iterate 4 rfl);(focus repeat' constructor);rfl;exact hlook;rfl|apply wY;rfl|apply wI;rfl|omega|intro h;simp at h;omega|(intro h;simp at h)|intro h)
theorem ajT (s:Sc) (o:Ot) (hs:s.length<1000000000000) (ht:∀t∈s,t.cols.length<1000000000000) (hr:∀t∈s,PF Tryz.prog 82 [.seq (t.cols.map Co.cells), .seq (o.row.map Vl.cells)] (vi (eH t o.row))):PF Tryz.prog 69 [.agg (scC s), .agg o.cells] (vi (fY s o)):=by
 have w1:=dP o.kind 1 8
 have hsl:(s.map Tb.cells).length=s.length:=zql _
 have w2:=dP o.table 0 (((s.map Tb.cells).length:Nat)-1)
 unfold T.withinB at w1 w2
 unfold fY
 by_cases h0:o.kind<1\/o.kind>8
 ·rw [zp h0]
  have e:(decide (o.kind>=1)&&decide (o.kind<=8))=false:=by rw [<-Bool.not_eq_true];simp;omega
  rw [e] at w1
  refine pF Tryz.func69 rfl (λst=> ?_)
  (repeat' first|apply wZ;rfl|show Cn _;constructor|exact rfl|(apply w1)|apply wY;rfl)
 rw [zn h0]
 have e:(decide (o.kind>=1)&&decide (o.kind<=8))=true:=by simp;omega
 rw [e] at w1
 by_cases h1:o.table<0\/o.table>=s.length
 ·rw [zp h1]
  have e:(decide (o.table>=0)&&decide (o.table<=((s.map Tb.cells).length:Int)-1))=false:=by rw [<-Bool.not_eq_true,hsl];simp;omega
  rw [e] at w2
  refine pF Tryz.func69 rfl (λst=> ?_)
  (repeat' first|apply wZ;rfl|show Cn _;constructor|exact rfl|((first|apply w1|apply w2))|apply wY;rfl|omega)
 rw [zn h1]
 have e:(decide (o.table>=0)&&decide (o.table<=((s.map Tb.cells).length:Int)-1))=true:=by rw [hsl];simp;omega
 rw [e] at w2
 obtain ⟨k,hk⟩:∃k:Nat,o.table=k:=⟨o.table.toNat,by omega⟩
 have hkl:k<s.length:=by omega
 have hm:=zgm hkl
 rw [hk,Int.toNat_natCast,getElem!_pos s k hkl]
 have hi:=aiP s[k] o (hr _ hm)
 by_cases h2:o.kind=1
 ·rw [zp h2]
  refine pF Tryz.func69 rfl (λst=> ?_)
  (repeat' first|apply iX;(intro hw;exact hk);(apply gE;omega);rfl|apply wZ;rfl|show Cn _;constructor|exact rfl|apply KR.mk;kernel_rfl|((first|apply w1|apply w2|apply hi))|apply wY;rfl|apply wI;rfl|omega|intro h)
 rw [zn h2]
 have hkey:=mZ o.key
 generalize ayH o.key=K at*
 by_cases h3:o.row.length>0\/K=false
 ·rw [zp h3]
  refine pF Tryz.func69 rfl (λst=> ?_)
  (repeat' first|apply wZ;rfl|show Cn _;constructor|exact rfl|((first|apply w1|apply w2|apply hkey))|apply wY;rfl|omega|(exfalso;grind)|(intro h;simp at h)|intro h)
 rw [zn h3]
 by_cases h8:o.kind≠8
 ·rw [zp h8]
  have hc:=apR s[k] o (ht _ hm) (by omega)
  refine pF Tryz.func69 rfl (λst=> ?_)
  (repeat' first|apply iX;(intro hw;exact hk);(apply gE;omega);rfl|apply wZ;rfl|show Cn _;constructor|exact rfl|apply KR.mk;kernel_rfl|((first|apply w1|apply w2|apply hkey|apply hc))|apply wY;rfl|apply wI;rfl|omega|(exfalso;grind)|(intro h;simp at h)|intro h)
 rw [zn h8]
 have hb:=aaQ o
 cases hB:sD o with
 |false=>
  rw [zp rfl]
  rw [hB] at hb
  refine pF Tryz.func69 rfl (λst=> ?_)
  (repeat' first|apply wZ;rfl|show Cn _;constructor|exact rfl|((first|apply w1|apply w2|apply hkey|apply hb))|apply wY;rfl|omega|(intro h;simp at h)|intro h)
 |true=>
  rw [zn (by simp)]
  rw [hB] at hb
  refine pF Tryz.func69 rfl (λst=> ?_)
  (repeat' first|apply wZ;rfl|show Cn _;constructor|exact rfl|((first|apply w1|apply w2|apply hkey|apply hb))|apply wY;rfl|omega|(exfalso;grind)|(intro h;simp at h)|intro h)
theorem aFx {α:Type} (f:α->Bool) (l:List α):decide (cS f l>=0)=l.any f:=by
 unfold cS
 cases h:l.findIdx? f with
 |none=>
  have:=List.findIdx?_eq_none_iff.1 h
  rw [Bool.eq_iff_iff,List.any_eq_true]
  simp only [zde]
  constructor
  ·intro q;omega
  ·rintro ⟨y,hy,q⟩
   have:=this y hy
   rw [q] at this;cases this
 |some k=>
  obtain ⟨q1,q2,_⟩:=List.findIdx?_eq_some_iff_getElem.1 h
  rw [Bool.eq_iff_iff,List.any_eq_true]
  constructor
  ·exact λ_=>⟨_,zgm q1,q2⟩
  ·intro _;simp
theorem azA (fid:FuncId) (caps:List PV) (f:Int->Bool) (l:List Int) (hl:l.length<4611686018427387904) (hf:∀p,PF Tryz.prog fid ([(vi (p))]++caps) (vb (f p))):PF Tryz.prog 236 [.seq (l.map I1), .fn fid caps] (vi (cS f l)):=by
 refine pF Tryz.func236 rfl (λst=> ?_)
 (repeat' first|apply wZ;rfl|show Cn _;constructor)
 refine aC (X:={x:Nat//x<=l.length/\∀j (h:j<x) (h2:j<l.length),f l[j]=false}) (λi=>(((((St.nil 19 st).pv 0 (.seq (l.map I1))).pv 1 (.fn fid caps)).pv 7 ((vi ((((l.map I1)).length:Nat))))).pv 8 ((vi ((i.1:Nat)))))) (λi=>l.length-i.1) ⟨0,by omega,by omega⟩ ?_ (λi=> ?_)
 ·(repeat' first|show Cn _;constructor|exact rfl)
 obtain ⟨i,hi,hinv⟩:=i
 dsimp only
 (repeat' first|(refine ⟨⟨i+1,by omega,λj h1 h2=>by rcases zls.1 h1 with q|q;exact hinv j q h2;subst q;assumption⟩, ?_, ?_⟩)|apply wZ;rfl|show Cn _;constructor|exact rfl|(apply hf)|show (_:PV)=_;(first|unfold cS;rw [nX ‹_› ‹_› hinv];done|unfold cS;rw [nG ‹_› hinv]);done|apply wY;rfl|apply wI;rfl|apply gE;omega|omega|simp only [zql];omega|(intro h;simp at h)|intro h)
theorem ayI (n:Int):PF Tryz.prog 169 [(vi (n))] (vb (!okV n)):=by
 have e:(!okV n)=(decide (n<0)||decide (n>1048576)):=by unfold okV;rw [Bool.eq_iff_iff];simp<;>omega
 rw [e]
 refine pF Tryz.func169 rfl (λst=> ?_)
 (repeat' first|apply wZ;rfl|show Cn _;constructor|exact rfl)
theorem aiI (v:List Int) (hl:v.length<1000000000000):PF Tryz.prog 110 [.seq (v.map I1)] (vb (aBB v)):=by
 have hx:=azA 169 [] (λn=> !okV n) v (by omega) ayI
 have hc:PF Tryz.prog 170 [.seq (v.map I1), .fn 169 []] (vb (v.any λn=> !okV n)):=by
  rw [<-aFx]
  generalize cS (λn=> !okV n) v=X at*
  refine pF Tryz.func170 rfl (λst=> ?_)
  (repeat' first|apply wZ;rfl|show Cn _;constructor|exact rfl|(apply hx)|apply wY;rfl)
 have e:aBB v=(decide ((v.length:Int)<=64)&& !(v.any λn=> !okV n)):=by
  unfold aBB
  rw [Bool.eq_iff_iff]
  simp
  omega
 rw [e]
 generalize (v.any λn=> !okV n)=A at*
 refine pF Tryz.func110 rfl (λst=> ?_)
 (repeat' first|apply wZ;rfl|show Cn _;constructor|exact rfl|(apply hc)|show (_:PV)=_;(simp only [zql];done);done|apply wY;rfl)
theorem aBb (v:List Int) (d:Int) (hl:v.length<1000000000000):PF Tryz.prog 295 [.seq (v.map I1),(vi (d))] (vi (ofV v d)):=by
 unfold ofV
 by_cases h:d<1\/d>v.length
 ·rw [zp h]
  refine pF Tryz.func295 rfl (λst=> ?_)
  (repeat' first|apply wZ;rfl|show Cn _;constructor|exact rfl|intro h;simp at h;omega|(intro h;simp at h))
 ·rw [zn h]
  obtain ⟨k,hk⟩:∃k:Nat,d=k+1:=⟨(d-1).toNat,by omega⟩
  have hkl:k<v.length:=by omega
  have e:(d-1).toNat=k:=by omega
  rw [e,getElem!_pos v k hkl]
  have hd1:d-1=((k:Nat):Int):=by omega
  refine pF Tryz.func295 rfl (λst=> ?_)
  (repeat' first|apply iX;(intro hw;exact hd1);(apply gE;omega);rfl|apply wZ;rfl|show Cn _;constructor|exact rfl|apply wI;rfl|omega|intro h;simp at h;omega|(intro h;simp at h))
theorem afR (v:List Int) (d:Dt) (hl:v.length<1000000000000):PF Tryz.prog 244 [.seq (v.map I1), .agg d.cells] (vb (anJ v d)):=by
 have h:=aBb v d.dev hl
 unfold anJ
 generalize ofV v d.dev=N at*
 refine pF Tryz.func244 rfl (λst=> ?_)
 (repeat' first|apply wZ;rfl|show Cn _;constructor|exact rfl|apply KR.mk;kernel_rfl|(apply h)|apply wY;rfl)
theorem wkC (n:Int):Wk (.agg [(vi (2)),(vi (1)),(vi (n)), .val (.string e0), .val (.slice none 0 0)]) (.agg (oW n).cells):= .agg (.cons (zwr _) (.cons (zwr _) (.cons (zwr _) (.cons (zwr _) (.cons Wk.nil .nil)))))
def inL (n:Int):Prop:= -4398046511104<=n/\n<=4398046511104
theorem aAV {l:List Int} {i:Nat} (h:i<l.length):(l.take (i+1)).sum=(l.take i).sum+l[i]:=by
 rw [List.take_succ_eq_append_getElem h,List.sum_append];simp
theorem aGY {l:List Int} (h:∀n∈l,inL n): -4398046511104*(l.length:Int)<=l.sum/\l.sum<=4398046511104*(l.length:Int):=by
 induction l with
 |nil=>simp
 |cons a l ih=>
  have h1:=h a (by simp)
  have h2:=ih λn hn=>h n (List.mem_cons_of_mem _ hn)
  unfold inL at h1
  rw [List.sum_cons,zlc]
  omega
theorem vE (l:List Int) (hl:l.length<=10) (h:∀n∈l,inL n):PF Tryz.prog 246 [.seq (l.map I1)] (.agg (oW l.sum).cells):=by
 refine pF Tryz.func246 rfl (λst=> ?_)
 focus ((repeat' first|apply wZ;rfl|show Cn _;constructor))
 refine aC (X:={x:Nat//x<=l.length}) (λi=>((((((St.nil 19 st).var 2 110 ([(vi (0)),(vi (0)),(vi (0)),(vs (e0)), .val (.slice none 0 0)])).pv 3 ((vi ((l.take i.1).sum)))).pv 6 (.seq (l.map I1))).pv 7 ((vi ((((l.map I1)).length:Nat))))).pv 8 ((vi ((i.1:Nat)))))) (λi=>l.length-i.1) ⟨0,by omega⟩ ?_ (λi=> ?_)
 ·(repeat' first|show Cn _;constructor|exact rfl)
 obtain ⟨i,hi⟩:=i
 dsimp only
 by_cases hend:l.length<=i
 ·rw [ztl hend]
  (repeat' first|exact Cn.any ⟨_,_,_,rfl,wkC _,zsr _,rfl,rfl⟩|apply wZ;rfl|show Cn _;constructor|simp only [zql];omega|(intro h;simp at h))
 have hil:i<l.length:=by omega
 have hn:=h _ (zgm hil)
 have hs:=aGY (l:=l.take i) λn hn=>h n (List.mem_of_mem_take hn)
 have hti:(l.take i).length=i:=by rw [zlt];omega
 have e:=aAV hil
 rw [hti] at hs
 unfold inL at hn
 generalize (l.take i).sum=S at*
 (repeat' first|refine ⟨⟨i+1,by omega⟩, ?_, ?_⟩;((dsimp only;rw [e]))|apply wZ;rfl|show Cn _;constructor|exact rfl|apply wI;rfl|apply gE;omega|omega|simp only [zql];omega|(intro h;simp at h))
end
end Go.Proofs.YtfablfldonhkiaaGreatDoor
