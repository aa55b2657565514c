import Derived.Test.YtloecjjehapblaaGreatDoorOpAx
import Derived.Test.YtloecjjehapblaaGreatDoorOpAh
import Derived.Test.YtloecjjehapblaaGreatDoorOpAs
import Derived.Test.YtloecjjehapblaaGreatDoorOpAt
import Derived.Test.YtloecjjehapblaaGreatDoorOpAu
set_option linter.unusedSimpArgs false
set_option linter.unusedVariables false
namespace Go.Proofs.YtloecjjehapblaaGreatDoor
open Go Go.Abs
attribute [local irreducible] Ev PWp
set_option maxRecDepth 10000
set_option maxHeartbeats 4000000
theorem adH (a:Ln) (d:Dt):(dD a d).by_.length<=a.by_.length+1:=by
 unfold dD
 split
 ·omega
 ·show (cE a.by_ (fO a.by_ d) [d]).length<=_
  rw [pX (alL _ _)];exact Nat.le_refl _
theorem abD {l:List Dt}:wJ l=true↔(∀x∈l,fI x=true)/\asW l:=by
 unfold wJ
 rw [pI]
 constructor
 ·intro h
  refine ⟨λx hx=> ?_,aDO λk hk=> ?_⟩
  ·obtain ⟨k,hk,rfl⟩:=List.getElem_of_mem hx
   have:=h k hk
   unfold acH at this
   rw [getElem!_pos l k hk,zba] at this
   exact this.1
  ·have:=h k hk
   unfold acH at this
   rw [zba] at this
   exact this.2
 ·rintro ⟨h1,h2⟩ k hk
  unfold acH
  rw [getElem!_pos l k hk,h1 _ (zgm hk),Bool.true_and]
  rcases Nat.eq_zero_or_pos k with rfl|h0
  ·rfl
  ·rw [getElem!_pos l (k-1) (by omega),List.pairwise_iff_getElem.1 h2 (k-1) k (by omega) hk (by omega)]
   simp
theorem abR {a:Ln} {d:Dt} (h:wJ a.by_=true) (hd:fI d=true):wJ (dD a d).by_=true:=by
 obtain ⟨h1,h2⟩:=abD.1 h
 rw [aAD]
 refine abD.2 ⟨λx hx=> ?_,auB h2 d⟩
 rcases (axY _ _ _).1 hx with rfl|q
 ·exact hd
 ·exact h1 x q
theorem atF {tx:Cl->Int}:jU tx Cl.zero=true:=by
 unfold jU
 rw [if_pos (show Cl.zero.kind=0 from rfl)]
 decide
theorem aBY {tx:Cl->Int} {s:Sc} {t:Tb} (hfr:∀f∈t.foreign,FrOK s t f) {G:R2->Bool} {who:Dt} {l:Ln} (h:LineOK tx t l) (hd:fI who=true):LineOK tx t (kT t G who l):=by
 unfold kT
 split
 ·obtain ⟨k1,k2,ln,kd,ce,ze,ds⟩:=h
  have hat:∀j (hj:j<l.cells_.length),∃p:Prop,∃_:Decidable p,(eO (eE G l) t.foreign l.cells_)[j]'(by rw [dE];exact hj)=(if p then Cl.zero else l.cells_[j])/\(p->1<=j/\t.cols[j]!.kind=0):=λj hj=>⟨_,_,nL hj,λhp=>by
   obtain ⟨f,hf,hc,_⟩:=aqA.1 (show anA t G l j=true from hp)
   have q:=hfr f hf
   have q1:=q.c1
   have q2:=q.kind
   refine ⟨by omega, ?_⟩
   rwa [show f.col.toNat=j by omega] at q2⟩
  refine ⟨k1,k2,by rw [<-ln];exact dE ..,λj hj=> ?_,λc hc=> ?_, ?_,abR ds hd⟩
  ·have hj:j<(eO (eE G l) t.foreign l.cells_).length:=hj
   rw [dE] at hj
   obtain ⟨p,_,e,hp⟩:=hat j hj
   show (eO (eE G l) t.foreign l.cells_)[j].kind=_
   rw [e]
   split
   ·rename_i hpp;rw [(hp hpp).2];rfl
   ·exact kd j hj
  ·obtain ⟨j,hj,rfl⟩:=List.getElem_of_mem hc
   have hj:j<(eO (eE G l) t.foreign l.cells_).length:=hj
   rw [dE] at hj
   obtain ⟨p,_,e,hp⟩:=hat j hj
   show jU tx (eO (eE G l) t.foreign l.cells_)[j]=true
   rw [e]
   split
   ·exact atF
   ·exact ce _ (zgm hj)
  ·show (eO (eE G l) t.foreign l.cells_)[0]!.val=_
   rw [<-ze]
   by_cases hj:0<l.cells_.length
   ·obtain ⟨p,_,e,hp⟩:=hat 0 hj
    rw [getElem!_pos _ 0 (by rw [dE];exact hj),getElem!_pos l.cells_ 0 hj,e,if_neg λq=>absurd (hp q).1 (by omega)]
   ·have:l.cells_=[]:=List.eq_nil_of_length_eq_zero (by omega)
    rw [this];rfl
 ·exact h
theorem auT {s:Sc} {b:Bs} {G:R2->Bool} {who:Dt} {k:Nat} (h:KSort b[k]!.lines):KSort (qA s b G who k):=by
 unfold KSort qA
 rw [List.map_map,show ((λl:Ln=>l.key)∘kT s[k]! G who)=λl=>l.key from funext λl=>azY _ _ _ _]
 unfold KSort at h
 exact h.sublist (List.Sublist.map _ List.filter_sublist)
theorem aBk {tx:Cl->Int} {s:Sc} {b:Bs} (h:cP tx s b=true) {G:R2->Bool} {who:Dt} (hd:fI who=true):cP tx s (xP s b G who)=true:=by
 obtain ⟨⟨h1,h2⟩,h3⟩:=bV.1 h
 refine bV.2 ⟨⟨h1,by rw [afB];exact h2⟩,λk hk=> ?_⟩
 rw [afB] at hk
 rw [axE hk]
 have hd3:=h3 k hk
 rw [getElem!_pos b k hk] at hd3
 obtain ⟨q1,q2,q3⟩:=fY.1 hd3
 have hks:k<s.length:=by omega
 refine fY.2 ⟨?_,λx hx=> ?_,auT (by rw [getElem!_pos b k hk];exact q3)⟩
 ·unfold qA
  rw [zql,getElem!_pos b k hk]
  exact Nat.le_trans (List.length_filter_le ..) q1
 ·obtain ⟨l,hl,_,rfl⟩:=aiI.1 hx
  rw [getElem!_pos b k hk] at hl
  refine yB.2 (aBY (s:=s) (λf hf=> ?_) (yB.1 (q2 l hl)) hd)
  rw [getElem!_pos s k hks] at hf⊢
  exact aAQ h1 hks hf
end Go.Proofs.YtloecjjehapblaaGreatDoor
namespace Go.Proofs.YtloecjjehapblaaGreatDoor
open Go Go.Abs
set_option maxRecDepth 10000
set_option maxHeartbeats 4000000
structure Ot where
 kind:Int
 table:Int
 key:Int
 col:Int
 row:List Vl
 val:Vl
 after:Dt
 at_:Int
def Ot.cells (o:Ot):List PV:=[(PV.val (Value.int .i64 (o.kind))),(PV.val (Value.int .i64 (o.table))),(PV.val (Value.int .i64 (o.key))),(PV.val (Value.int .i64 (o.col))), .seq (o.row.map Vl.cells),(PV.val (Value.int .i64 (o.val.kind))),(PV.val (Value.int .i64 (o.val.n))),(PV.val (Value.string (o.val.s))),(PV.val (Value.int .i64 (o.after.dev))),(PV.val (Value.int .i64 (o.after.seq))),(PV.val (Value.int .i64 (o.at_)))]
structure Wr where
 who:T.Sp
 knew:List Int
def Wr.dot (w:Wr):Dt:=⟨w.who.dev,w.who.seq⟩
def Wr.cells (w:Wr):List PV:=[(PV.val (Value.int .i64 (w.who.time))),(PV.val (Value.int .i64 (w.who.dev))),(PV.val (Value.int .i64 (w.who.seq))), .seq (w.knew.map I1)]
def rH (o:Ot):Bool:=decide (o.col=0/\o.val=Vl.zero/\o.after=Dt.zero/\o.at_=0)
def auI (n:Int):Bool:=decide (0<=n)&&decide (n<=1073741823)
def apX (t:Tb) (o:Ot):Int:=if o.key≠0\/rH o=false then 1 else if eM t o.row≠0 then eM t o.row else if o.row.length=0\/auI o.row[0]!.n=false then 1 else 0
def qO (c:Co) (o:Ot):Int:=if (o.kind=7/\o.val≠Vl.zero)\/cJ o.val=false then 1 else if o.kind=7 then 0 else if o.kind=2/\o.val.kind=0 then (if c.null=true then 0 else 7) else if (o.kind=2/\o.val.kind≠c.type_)\/(o.kind=6/\o.val.kind≠2) then 6 else if o.kind≠2/\o.kind≠6/\o.val.kind≠1 then 6 else 0
def agF (o:Ot):Bool:=if o.after=Dt.zero/\o.at_=0 then decide (o.kind≠7) else decide (o.kind=6\/o.kind=7)&&T.mayN ⟨o.after,o.at_⟩
def aeI (k c:Int):Bool:=if k=2 then decide (c=0\/c=1) else if k=3 then decide (c=2) else if k=4\/k=5 then decide (c=3) else if k=6\/k=7 then decide (c=4) else false
def aaF (t:Tb) (o:Ot):Int:=if o.col<0\/o.col>=t.cols.length then 4 else if o.col=0 then 1 else if aeI o.kind t.cols[o.col.toNat]!.kind=false then 6 else if qO t.cols[o.col.toNat]! o≠0 then qO t.cols[o.col.toNat]! o else if agF o=false then 1 else 0
def fX (s:Sc) (o:Ot):Int:=if o.kind<1\/o.kind>8 then 1 else if o.table<0\/o.table>=s.length then 4 else if o.kind=1 then apX s[o.table.toNat]! o else if o.row.length>0\/auI o.key=false then 1 else if o.kind≠8 then aaF s[o.table.toNat]! o else if rH o=false then 1 else 0
def okV (n:Int):Bool:=decide (0<=n)&&decide (n<=1048576)
def ayZ (v:List Int):Bool:=decide (v.length<=64)&&v.all okV
def ofV (v:List Int) (d:Int):Int:=if d<1\/d>v.length then 0 else v[(d-1).toNat]!
def alN (v:List Int) (d:Dt):Bool:=decide (d.seq>=1)&&decide (d.seq<=ofV v d.dev)
def ptN (v:Vl) (d:Dt):Pt:=⟨v,d,0,0,Dt.zero,0,false⟩
def qW (d:Dt) (kn:List Int) (p:Pt):Bool:=decide (p.dot≠d)&& !alN kn p.dot
def acA {α:Type} (f:α->Bool) (l:List α):Nat:=(l.findIdx? f).getD l.length
def gV (c:Cl) (v:Vl) (d:Dt) (kn:List Int):Cl:=⟨c.kind,c.val,dJ (c.parts.filter (qW d kn)) (acA (λp=>bG p.dot d) (c.parts.filter (qW d kn))) [ptN v d]⟩
def nV (n:Int):Vl:=⟨1,n,e0⟩
def qV (n:Int) (d:Dt) (p:Pt):Bool:=decide (p.val.n=n)&&decide (p.dot=d)
def nA (c:Cl) (n:Int) (d:Dt):Cl:=if c.parts.any (qV n d)=true then c else ⟨c.kind,c.val,dJ c.parts (acA (λp=>dP p (ptN (nV n) d)) c.parts) [ptN (nV n) d]⟩
def rD (n:Int) (d:Dt) (kn:List Int) (p:Pt):Bool:=decide (p.val.n≠n)||(decide (p.dot≠d)&& !alN kn p.dot)
def rA (c:Cl) (n:Int) (d:Dt) (kn:List Int):Cl:=⟨c.kind,c.val,c.parts.filter (rD n d kn)⟩
def oE (n:Int):Cl:=⟨2,nV n,[]⟩
def sP (c:Cl) (n:Int):Cl×Int:=if cI c≠0 then (Cl.zero,cI c) else if cI (oE n)≠0 then (Cl.zero,cI (oE n)) else if cI (oE (c.val.n+n))≠0 then (Cl.zero,cI (oE (c.val.n+n))) else (oE (c.val.n+n),0)
def kE (w:Wr) (kind:Int) (v:Vl):Cl×Int:=if kind=0 then (⟨0,v,[]⟩,0) else if kind=2 then sP (oE 0) v.n else if kind=4 then T.typeP ⟨4,Vl.zero,[]⟩ v.s w.who T.Nm.zero else if v.kind=0 then (⟨kind,Vl.zero,[]⟩,0) else if kind=3 then (nA ⟨kind,Vl.zero,[]⟩ v.n w.dot,0) else (gV ⟨kind,Vl.zero,[]⟩ v w.dot w.knew,0)
def eW (w:Wr) (c:Cl) (o:Ot):Cl×Int:=if o.kind=2 then (if c.kind=0 then (⟨0,o.val,[]⟩,0) else (gV c o.val w.dot w.knew,0)) else if o.kind=3 then sP c o.val.n else if o.kind=4 then (nA c o.val.n w.dot,0) else if o.kind=5 then (rA c o.val.n w.dot w.knew,0) else if o.kind=6 then T.typeP c o.val.s w.who ⟨o.after,o.at_⟩ else (T.eraseP c ⟨o.after,o.at_⟩,0)
def nN (w:Wr) (t:Tb) (r:List Vl) (i:Nat):Cl×Int:=kE w t.cols[i]!.kind r[i]!
def lG (w:Wr) (t:Tb) (r:List Vl):Int:=dR (λi=>(nN w t r i).2) (List.range r.length)
def eX (w:Wr) (t:Tb) (r:List Vl):Ln:=⟨r[0]!.n,(List.range r.length).map λi=>(nN w t r i).1,[w.dot]⟩
def qN (w:Wr) (o:Ot) (l:Ln):Ln:=dD ⟨l.key,l.cells_.set o.col.toNat (eW w l.cells_[o.col.toNat]! o).1,l.by_⟩ w.dot
def aDN (w:Wr) (s:Sc) (b:Bs) (o:Ot):Bs×Int:=if (eH (aO b o.table) o.row[0]!.n).isSome=true then ([],8) else if (aO b o.table).length>=2000 then ([],2) else if lG w s[o.table.toNat]! o.row≠0 then ([],lG w s[o.table.toNat]! o.row) else (sQ b o.table (eX w s[o.table.toNat]! o.row),0)
def arF (w:Wr) (b:Bs) (o:Ot):Bs×Int:=match eH (aO b o.table) o.key with
 |none=>([],4)
 |some l=>if (eW w l.cells_[o.col.toNat]! o).2≠0 then ([],(eW w l.cells_[o.col.toNat]! o).2) else (sQ b o.table (qN w o l),0)
def eD (w:Wr) (s:Sc) (b:Bs) (o:Ot):Bs×Int:=if fX s o≠0 then ([],fX s o) else if o.kind=1 then aDN w s b o else if o.kind=8 then uU true s b (o.table,o.key) w.dot (sX s b (o.table,o.key)) else arF w b o
def uO (w:Wr):Bool:=((T.withinB w.who.time 1 1125899906842624&&T.withinB w.who.dev 1 64)&&T.withinB w.who.seq 1 1048576)&&ayZ w.knew
noncomputable def rightW (w:Wr) (s:Sc) (b:Bs):Bool:=mayC s b&&uO w
noncomputable def doP (w:Wr) (s:Sc) (b:Bs) (o:Ot):Bs×Int:=if rightW w s b=true then eD w s b o else ([],1)
def cZ (w:Wr) (s:Sc):Bs->List Ot->Bs×Int
 |b,[]=>(b,0)
 |b,o::r=>if (eD w s b o).2≠0 then ([],(eD w s b o).2) else cZ w s (eD w s b o).1 r
noncomputable def allP (w:Wr) (s:Sc) (b:Bs) (l:List Ot):Bs×Int:=if rightW w s b=false then ([],1) else if l.length>2000 then ([],2) else if (cZ w s b l).2≠0 then ([],(cZ w s b l).2) else if whyC s (cZ w s b l).1≠0 then ([],whyC s (cZ w s b l).1) else ((cZ w s b l).1,0)
end Go.Proofs.YtloecjjehapblaaGreatDoor
