import Derived.Test.YtnogfoojjaainaaGreatDoorClAg
import Derived.Test.YtnogfoojjaainaaGreatDoorClAc
import Derived.Test.YtnogfoojjaainaaGreatDoorClAf
import Derived.Test.YtnogfoojjaainaaGreatDoorAbsK
import Derived.Test.YtnogfoojjaainaaGreatDoorAbsG
set_option linter.unusedSimpArgs false
set_option linter.unusedVariables false
namespace Go.Proofs.YtnogfoojjaainaaGreatDoor
open Go Go.Abs
section
set_option maxRecDepth 10000
set_option maxHeartbeats 4000000
def atI(t:Tb)(G:R2->Bool)(l:Ln)(c:Int):Bool:=t.foreign.any λf=>decide (f.col=c)&&eH G l f
theorem awR{t:Tb}{G:R2->Bool}{l:Ln}{c:Int}:atI t G l c=true↔∃f∈t.foreign,f.col=c/\eH G l f=true:=by
 unfold atI;rw[List.any_eq_true];simp only[zba,zde]
theorem aDB(t:Tb)(G:R2->Bool)(who:Dt)(l:Ln):(lT t G who l).key=l.key:=by unfold lT;split<;>rfl
theorem aCk{s:Sc}{b:Bs}{G:R2->Bool}{who:Dt}{k:Nat}(hk:k<b.length):(abA s b G who)[k]!.lines=rX s b G who k:=by
 have h:k<(abA s b G who).length:=by simpa[abA]using hk
 rw[getElem!_pos _ k h];simp[abA]
theorem ajU(s:Sc)(b:Bs)(G:R2->Bool)(who:Dt):(abA s b G who).length=b.length:=by simp[abA]
theorem anS{s:Sc}{b:Bs}{G:R2->Bool}{who:Dt}{k:Nat}{x:Ln}:x∈rX s b G who k↔∃l∈b[k]!.lines,G ((k:Int),l.key)=false/\x=lT s[k]! G who l:=by
 unfold rX;simp only[List.mem_map,List.mem_filter,Bool.not_eq_true'];exact⟨λ⟨l,⟨a,c⟩,e⟩=>⟨l,a,c,e.symm⟩,λ⟨l,a,c,e⟩=>⟨l,⟨a,c⟩,e.symm⟩⟩
section
variable{s:Sc}{b:Bs}{G:R2->Bool}{who:Dt}
end
end
section
attribute [local irreducible] Ev PWp
set_option maxRecDepth 10000
set_option maxHeartbeats 4000000
theorem ahR(a:Ln)(d:Dt):(dD a d).by_.length<=a.by_.length+1:=by
 unfold dD;split
 ·omega
 ·show(cH a.by_ (gC a.by_ d) [d]).length<=_
  rw[rV (arO _ _)];exact Nat.le_refl _
theorem afI{l:List Dt}:mH l=true↔(∀x∈l,dU x=true)/\aAh l:=by
 unfold mH;rw[nQ];constructor
 ·intro h
  refine⟨λx hx=>?_,aHJ λk hk=>?_⟩
  ·obtain⟨k,hk,rfl⟩:=zgo hx
   have:=h k hk;unfold uU at this;rw[getElem!_pos l k hk,zba]at this;exact this.1
  ·have:=h k hk
   unfold uU at this;rw[zba]at this;exact this.2
 ·rintro⟨a,c⟩ k hk
  unfold uU;rw[getElem!_pos l k hk,a _ (zgm hk),Bool.true_and];rcases Nat.eq_zero_or_pos k with rfl|h0
  ·rfl
  ·rw[getElem!_pos l (k-1) (by omega),List.pairwise_iff_getElem.1 c (k-1) k (by omega) hk (by omega)]
   simp
theorem agC{a:Ln}{d:Dt}(h:mH a.by_=true)(hd:dU d=true):mH (dD a d).by_=true:=by
 obtain⟨c,e⟩:=afI.1 h;rw[aD7];refine afI.2 ⟨λx hx=>?_,aAQ e d⟩;rcases(aCG _ _ _).1 hx with rfl|q
 ·exact hd
 ·exact c x q
theorem aAt{tx:Cl->Int}:iR tx Cl.zero=true:=by
 unfold iR;rw[zp (show Cl.zero.kind=0 from rfl)]
 decide
theorem aFG{tx:Cl->Int}{s:Sc}{t:Tb}(d:∀f∈t.foreign,FrOK s t f){G:R2->Bool}{who:Dt}{l:Ln}(h:LineOK tx t l)(hd:dU who=true):LineOK tx t (lT t G who l):=by
 unfold lT;split
 ·obtain⟨k1,k2,ln,i,ce,m,ds⟩:=h
  have a:∀j (hj:j<l.cells_.length),∃p:Prop,∃_:Decidable p,(eX (eH G l) t.foreign l.cells_)[j]'(by rw[dE];exact hj)=(if p then Cl.zero else l.cells_[j])/\(p->1<=j/\t.cols[j]!.kind=0):=λj hj=>⟨_,_,oZ hj,λhp=>by
   obtain⟨f,hf,hc,_⟩:=awR.1 (show atI t G l j=true from hp)
   have q:=d f hf
   have n:=q.c1
   have k:=q.kind
   refine⟨by omega,?_⟩
   rwa[show f.col.toNat=j by omega]at k⟩
  refine⟨k1,k2,by rw[<-ln];exact dE ..,λj hj=>?_,λc hc=>?_,?_,agC ds hd⟩
  ·have hj:j<(eX (eH G l) t.foreign l.cells_).length:=hj
   rw[dE]at hj;obtain⟨p,_,e,hp⟩:=a j hj;show(eX (eH G l) t.foreign l.cells_)[j].kind=_;rw[e];split
   ·rename_i g;rw[(hp g).2];rfl
   ·exact i j hj
  ·obtain⟨j,hj,rfl⟩:=zgo hc
   have hj:j<(eX (eH G l) t.foreign l.cells_).length:=hj;rw[dE]at hj;obtain⟨p,_,e,hp⟩:=a j hj;show iR tx (eX (eH G l) t.foreign l.cells_)[j]=true;rw[e];split
   ·exact aAt
   ·exact ce _ (zgm hj)
  ·show(eX (eH G l) t.foreign l.cells_)[0]!.val=_
   rw[<-m];by_cases hj:0<l.cells_.length
   ·obtain⟨p,_,e,hp⟩:=a 0 hj
    rw[getElem!_pos _ 0 (by rw[dE];exact hj),getElem!_pos l.cells_ 0 hj,e,zn λq=>absurd (hp q).1 (by omega)]
   ·have:l.cells_=[]:=List.eq_nil_of_length_eq_zero (by omega)
    rw[this];rfl
 ·exact h
theorem aBa{s:Sc}{b:Bs}{G:R2->Bool}{who:Dt}{k:Nat}(h:KSort b[k]!.lines):KSort (rX s b G who k):=by
 unfold KSort rX;rw[List.map_map,show((λl:Ln=>l.key)∘lT s[k]! G who)=λl=>l.key from funext λl=>aDB _ _ _ _];unfold KSort at h;exact h.sublist (List.Sublist.map _ List.filter_sublist)
theorem aES{tx:Cl->Int}{s:Sc}{b:Bs}(h:bC tx s b=true){G:R2->Bool}{who:Dt}(hd:dU who=true):bC tx s (abA s b G who)=true:=by
 obtain⟨⟨d,e⟩,g⟩:=aU.1 h;refine aU.2 ⟨⟨d,by rw[ajU];exact e⟩,λk hk=>?_⟩;rw[ajU]at hk;rw[aCk hk];have a:=g k hk;rw[getElem!_pos b k hk]at a;obtain⟨i,j,m⟩:=gT.1 a;have c:k<s.length:=by omega
 refine gT.2 ⟨?_,λx hx=>?_,aBa (by rw[getElem!_pos b k hk];exact m)⟩
 ·unfold rX
  rw[zql,getElem!_pos b k hk];exact Nat.le_trans (List.length_filter_le ..) i
 ·obtain⟨l,hl,_,rfl⟩:=anS.1 hx
  rw[getElem!_pos b k hk]at hl;refine abL.2 (aFG (s:=s) (λf hf=>?_) (abL.1 (j l hl)) hd);rw[getElem!_pos s k c]at hf⊢;exact ayW d c hf
end
section
set_option maxRecDepth 10000
set_option maxHeartbeats 4000000
structure Ot where
 kind:Int
 table:Int
 key:Int
 col:Int
 row:List Vl
 val:Vl
 after:Dt
 at_:Int
def Ot.cells(o:Ot):List PV:=[vi o.kind,vi o.table,vi o.key,vi o.col, .seq (o.row.map Vl.cells),vi o.val.kind,vi o.val.n,vs o.val.s,vi o.after.dev,vi o.after.seq,vi o.at_]
structure Wr where
 who:T.Sp
 knew:List Int
def Wr.dot(w:Wr):Dt:=⟨w.who.dev,w.who.seq⟩
def Wr.cells(w:Wr):List PV:=[vi w.who.time,vi w.who.dev,vi w.who.seq, .seq (w.knew.map I1)]
def uF(o:Ot):Bool:=decide (o.col=0/\o.val=Vl.zero/\o.after=Dt.zero/\o.at_=0)
def aAY(n:Int):Bool:=decide (0<=n)&&decide (n<=1073741823)
def awP(t:Tb)(o:Ot):Int:=if o.key≠0\/uF o=false then 1 else if eS t o.row≠0 then eS t o.row else if o.row.length=0\/aAY o.row[0]!.n=false then 1 else 0
def tF(c:Co)(o:Ot):Int:=if(o.kind=7/\o.val≠Vl.zero)\/cE o.val=false then 1 else if o.kind=7 then 0 else if o.kind=2/\o.val.kind=0 then(if c.null=true then 0 else 7)else if(o.kind=2/\o.val.kind≠c.type_)\/(o.kind=6/\o.val.kind≠2)then 6 else if o.kind≠2/\o.kind≠6/\o.val.kind≠1 then 6 else 0
def alJ(o:Ot):Bool:=if o.after=Dt.zero/\o.at_=0 then decide (o.kind≠7)else decide (o.kind=6\/o.kind=7)&&T.mayN ⟨o.after,o.at_⟩
def aiZ(k c:Int):Bool:=if k=2 then decide (c=0\/c=1)else if k=3 then decide (c=2)else if k=4\/k=5 then decide (c=3)else if k=6\/k=7 then decide (c=4)else false
def adX(t:Tb)(o:Ot):Int:=if o.col<0\/o.col>=t.cols.length then 4 else if o.col=0 then 1 else if aiZ o.kind t.cols[o.col.toNat]!.kind=false then 6 else if tF t.cols[o.col.toNat]! o≠0 then tF t.cols[o.col.toNat]! o else if alJ o=false then 1 else 0
def gS(s:Sc)(o:Ot):Int:=if o.kind<1\/o.kind>8 then 1 else if o.table<0\/o.table>=s.length then 4 else if o.kind=1 then awP s[o.table.toNat]! o else if o.row.length>0\/aAY o.key=false then 1 else if o.kind≠8 then adX s[o.table.toNat]! o else if uF o=false then 1 else 0
def okV(n:Int):Bool:=decide (0<=n)&&decide (n<=1048576)
def aDd(v:List Int):Bool:=decide (v.length<=64)&&v.all okV
def ofV(v:List Int)(d:Int):Int:=if d<1\/d>v.length then 0 else v[(d-1).toNat]!
def arQ(v:List Int)(d:Dt):Bool:=decide (d.seq>=1)&&decide (d.seq<=ofV v d.dev)
def ptN(v:Vl)(d:Dt):Pt:=⟨v,d,0,0,Dt.zero,0,false⟩
def tQ(d:Dt)(kn:List Int)(p:Pt):Bool:=decide (p.dot≠d)&& !arQ kn p.dot
def agK{α:Type}(f:α->Bool)(l:List α):Nat:=(l.findIdx? f).getD l.length
def jB(c:Cl)(v:Vl)(d:Dt)(kn:List Int):Cl:=⟨c.kind,c.val,dQ (c.parts.filter (tQ d kn)) (agK (λp=>aW p.dot d) (c.parts.filter (tQ d kn))) [ptN v d]⟩
def nV(n:Int):Vl:=⟨1,n,e0⟩
def tP(n:Int)(d:Dt)(p:Pt):Bool:=decide (p.val.n=n)&&decide (p.dot=d)
def oK(c:Cl)(n:Int)(d:Dt):Cl:=if c.parts.any (tP n d)=true then c else⟨c.kind,c.val,dQ c.parts (agK (λp=>dP p (ptN (nV n) d)) c.parts) [ptN (nV n) d]⟩
def tZ(n:Int)(d:Dt)(kn:List Int)(p:Pt):Bool:=decide (p.val.n≠n)||(decide (p.dot≠d)&& !arQ kn p.dot)
def tW(c:Cl)(n:Int)(d:Dt)(kn:List Int):Cl:=⟨c.kind,c.val,c.parts.filter (tZ n d kn)⟩
def qE(n:Int):Cl:=⟨2,nV n,[]⟩
def vL(c:Cl)(n:Int):Cl×Int:=if bV c≠0 then(Cl.zero,bV c)else if bV (qE n)≠0 then(Cl.zero,bV (qE n))else if bV (qE (c.val.n+n))≠0 then(Cl.zero,bV (qE (c.val.n+n)))else(qE (c.val.n+n),0)
def lJ(w:Wr)(kind:Int)(v:Vl):Cl×Int:=if kind=0 then(⟨0,v,[]⟩,0)else if kind=2 then vL (qE 0) v.n else if kind=4 then T.typeP ⟨4,Vl.zero,[]⟩ v.s w.who T.Nm.zero else if v.kind=0 then(⟨kind,Vl.zero,[]⟩,0)else if kind=3 then(oK ⟨kind,Vl.zero,[]⟩ v.n w.dot,0)else(jB ⟨kind,Vl.zero,[]⟩ v w.dot w.knew,0)
def fE(w:Wr)(c:Cl)(o:Ot):Cl×Int:=if o.kind=2 then(if c.kind=0 then(⟨0,o.val,[]⟩,0)else(jB c o.val w.dot w.knew,0))else if o.kind=3 then vL c o.val.n else if o.kind=4 then(oK c o.val.n w.dot,0)else if o.kind=5 then(tW c o.val.n w.dot w.knew,0)else if o.kind=6 then T.typeP c o.val.s w.who ⟨o.after,o.at_⟩else(T.eraseP c ⟨o.after,o.at_⟩,0)
def pD(w:Wr)(t:Tb)(r:List Vl)(i:Nat):Cl×Int:=lJ w t.cols[i]!.kind r[i]!
def mG(w:Wr)(t:Tb)(r:List Vl):Int:=eE (λi=>(pD w t r i).2) (List.range r.length)
def fF(w:Wr)(t:Tb)(r:List Vl):Ln:=⟨r[0]!.n,(List.range r.length).map λi=>(pD w t r i).1,[w.dot]⟩
def rH(w:Wr)(o:Ot)(l:Ln):Ln:=dD ⟨l.key,l.cells_.set o.col.toNat (fE w l.cells_[o.col.toNat]! o).1,l.by_⟩ w.dot
def aHI(w:Wr)(s:Sc)(b:Bs)(o:Ot):Bs×Int:=if(cB (aF b o.table) o.row[0]!.n).isSome=true then([],8)else if(aF b o.table).length>=2000 then([],2)else if mG w s[o.table.toNat]! o.row≠0 then([],mG w s[o.table.toNat]! o.row)else(vM b o.table (fF w s[o.table.toNat]! o.row),0)
def ayI(w:Wr)(b:Bs)(o:Ot):Bs×Int:=match cB (aF b o.table) o.key with
 |none=>([],4)
 |some l=>if(fE w l.cells_[o.col.toNat]! o).2≠0 then([],(fE w l.cells_[o.col.toNat]! o).2)else(vM b o.table (rH w o l),0)
def bX(w:Wr)(s:Sc)(b:Bs)(o:Ot):Bs×Int:=if gS s o≠0 then([],gS s o)else if o.kind=1 then aHI w s b o else if o.kind=8 then yG true s b (o.table,o.key) w.dot (vX s b (o.table,o.key))else ayI w b o
def qK(w:Wr):Bool:=((T.withinB w.who.time 1 1125899906842624&&T.withinB w.who.dev 1 64)&&T.withinB w.who.seq 1 1048576)&&aDd w.knew
noncomputable def rightW(w:Wr)(s:Sc)(b:Bs):Bool:=mayC s b&&qK w
noncomputable def doP(w:Wr)(s:Sc)(b:Bs)(o:Ot):Bs×Int:=if rightW w s b=true then bX w s b o else([],1)
def bD(w:Wr)(s:Sc):Bs->List Ot->Bs×Int
 |b,[]=>(b,0)
 |b,o::r=>if(bX w s b o).2≠0 then([],(bX w s b o).2)else bD w s (bX w s b o).1 r
noncomputable def fY(w:Wr)(s:Sc)(b:Bs)(l:List Ot):Bs×Int:=if rightW w s b=false then([],1)else if l.length>2000 then([],2)else if(bD w s b l).2≠0 then([],(bD w s b l).2)else if whyC s (bD w s b l).1≠0 then([],whyC s (bD w s b l).1)else((bD w s b l).1,0)
end
section
attribute [local irreducible] Ev PWp
set_option maxRecDepth 10000
set_option maxHeartbeats 4000000
theorem dW(n a b:Int):PF Tryz.prog 112 [vi n,vi a,vi b] (vb (T.withinB n a b)):=by
 refine pF Tryz.func112 rfl λst=>?_
 repeat' first|apply wZ;rfl|show Cn _;constructor|exact rfl
theorem nX(n:Int):PF Tryz.prog 115 [vi n] (vb (aAY n)):=by
 have h:=dW n 0 1073741823;refine pF Tryz.func115 rfl λst=>?_
 repeat' first|apply wZ;rfl|show Cn _;constructor|exact rfl|apply h|apply wY;rfl
theorem aJ7(d:Dt):(decide (d.dev=0)&&decide (d.seq=0))=decide (d=Dt.zero):=by
 rw[Bool.eq_iff_iff];simp[Dt.ext_iff,Dt.zero]
theorem aIi(v:Vl):(decide (v.kind=0)&&(decide (v.n=0)&&decide (v.s=e0)))=decide (v=Vl.zero):=by
 rw[Bool.eq_iff_iff];simp[Vl.ext_iff,Vl.zero]
theorem adM(o:Ot):PF Tryz.prog 117 [.agg o.cells] (vb (uF o)):=by
 have e:uF o=(((decide (o.col=0)&&decide (o.val=Vl.zero))&&decide (o.after=Dt.zero))&&decide (o.at_=0)):=by unfold uF;rw[Bool.eq_iff_iff];simp[and_assoc]
 rw[e,<-aJ7,<-aIi];refine pF Tryz.func117 rfl λst=>?_
 repeat' first|apply wZ;rfl|show Cn _;constructor|exact rfl
theorem amA(t:Tb)(o:Ot)(e:PF Tryz.prog 124 [.seq (t.cols.map Co.cells), .seq (o.row.map Vl.cells)] (vi (eS t o.row))):PF Tryz.prog 114 [.agg t.cells, .agg o.cells] (vi (awP t o)):=by
 have hb:=adM o;unfold awP;generalize eS t o.row=R at*;generalize uF o=B at*;by_cases h0:o.key≠0\/B=false
 ·rw[zp h0]
  refine pF Tryz.func114 rfl λst=>?_
  repeat' first|exfalso;revert h0;simp_all;done|apply wZ;rfl|show Cn _;constructor|exact rfl|apply hb|apply wY;rfl|intro h;simp at h
 rw[zn h0];simp only[not_or,Decidable.not_not,Bool.not_eq_false]at h0;obtain⟨h0,rfl⟩:=h0;by_cases c:R≠0
 ·rw[zp c]
  refine pF Tryz.func114 rfl λst=>?_
  repeat' first|apply wZ;rfl|show Cn _;constructor|exact rfl|(first|apply hb|apply e)|apply wY;rfl|omega|intro h;simp at h;omega|intro h;simp at h|intro h
 rw[zn c];have c:=zdn c;by_cases d:o.row.length=0
 ·rw[zp (.inl d)]
  refine pF Tryz.func114 rfl λst=>?_
  repeat' first|apply wZ;rfl|show Cn _;constructor|exact rfl|(first|apply hb|apply e|apply nX 0)|apply cL pk (j:=0) (row:=Vl.zero.cells);(iterate 6 rfl);rotate_left;rfl;(intro hw;exact absurd hw (by simp[gw,d]));(intro hw;exact absurd hw (by simp[gw,d]));(intro hw;exact absurd hw (by simp[gw,d]));rfl|apply wY;rfl|omega|exfalso;simp_all;done|intro h;simp at h;omega|intro h;simp at h|intro h
 have a:0<o.row.length:=by omega
 have hk:=nX o.row[0].n;rw[getElem!_pos o.row 0 a];generalize aAY o.row[0].n=K at*;cases K with
 |false=>
  rw[zp (.inr rfl)];refine pF Tryz.func114 rfl λst=>?_
  (repeat' first|apply wZ;rfl|show Cn _;constructor|exact rfl|(first|apply hb|apply e|apply hk)|apply wY;rfl|apply wI;rfl|apply gE;omega|omega|intro h;simp at h;done|intro h;simp at h;omega|intro h;simp at h|intro h)
 |true=>
  rw[zn (by rintro(q|q);omega;cases q)];refine pF Tryz.func114 rfl λst=>?_
  repeat' first|apply wZ;rfl|show Cn _;constructor|exact rfl|(first|apply hb|apply e|apply hk)|apply wY;rfl|apply wI;rfl|apply gE;omega|omega|exfalso;simp_all;done|intro h;simp at h;omega|intro h;simp at h|intro h
theorem aCq(c:Co)(o:Ot):PF Tryz.prog 182 [.agg c.cells, .agg o.cells] (vi (tF c o)):=by
 have hv:=kE o.val;have hz:=aIi o.val;unfold tF;generalize cE o.val=V at*;generalize g:decide (o.val=Vl.zero)=Z at*;have a:o.val≠Vl.zero↔Z=false:=by rw[<-g];simp
 by_cases h0:(o.kind=7/\o.val≠Vl.zero)\/V=false
 ·rw[zp h0]
  rw[a]at h0;refine pF Tryz.func182 rfl λst=>?_
  repeat' first|apply wZ;rfl|show Cn _;constructor|exact rfl|apply hv|apply wY;rfl|omega|exfalso;grind|intro h;simp at h|intro h
 rw[zn h0];rw[a]at h0;by_cases f:o.kind=7
 ·rw[zp f]
  refine pF Tryz.func182 rfl λst=>?_
  repeat' first|apply wZ;rfl|show Cn _;constructor|exact rfl|apply hv|apply wY;rfl|omega|exfalso;grind|intro h;simp at h|intro h
 rw[zn f];by_cases d:o.kind=2/\o.val.kind=0
 ·rw[zp d]
  obtain⟨d,e⟩:=d;cases hn:c.null
  ·rw[zn (by simp)]
   refine pF Tryz.func182 rfl λst=>?_
   repeat' first|apply wZ;rfl|show Cn _;constructor|exact rfl|apply hv|apply wY;rfl|omega|exfalso;grind|intro h;simp at h;omega|intro h;simp at h|intro h
  ·rw[zp rfl]
   refine pF Tryz.func182 rfl λst=>?_
   repeat' first|apply wZ;rfl|show Cn _;constructor|exact rfl|apply hv|apply wY;rfl|omega|exfalso;grind|intro h;simp at h;omega|intro h;simp at h|intro h
 rw[zn d];by_cases e:(o.kind=2/\o.val.kind≠c.type_)\/(o.kind=6/\o.val.kind≠2)
 ·rw[zp e]
  refine pF Tryz.func182 rfl λst=>?_
  repeat' first|apply wZ;rfl|show Cn _;constructor|exact rfl|apply hv|apply wY;rfl|omega|exfalso;grind|intro h;simp at h;omega|intro h;simp at h|intro h
 rw[zn e];by_cases h4:o.kind≠2/\o.kind≠6/\o.val.kind≠1
 ·rw[zp h4]
  refine pF Tryz.func182 rfl λst=>?_
  repeat' first|apply wZ;rfl|show Cn _;constructor|exact rfl|apply hv|apply wY;rfl|omega|exfalso;grind|intro h;simp at h;omega|intro h;simp at h|intro h
 rw[zn h4];refine pF Tryz.func182 rfl λst=>?_
 repeat' first|apply wZ;rfl|show Cn _;constructor|exact rfl|apply hv|apply wY;rfl|omega|exfalso;grind|intro h;simp at h;omega|intro h;simp at h|intro h
theorem atS(o:Ot):PF Tryz.prog 183 [.agg o.cells] (vb (alJ o)):=by
 have a:=dW o.after.dev 1 64;have c:=dW o.after.seq 1 1048576;have d:=dW o.at_ 0 1999;unfold alJ T.mayN;have e:(o.after=Dt.zero/\o.at_=0)↔((o.after.dev=0/\o.after.seq=0)/\o.at_=0):=by rw[Dt.ext_iff];rfl
 by_cases h:o.after=Dt.zero/\o.at_=0
 ·rw[zp h]
  rw[e]at h;obtain⟨⟨f,g⟩,i⟩:=h;refine pF Tryz.func183 rfl λst=>?_
  repeat' first|apply wZ;rfl|show Cn _;constructor|exact rfl|show(_:PV)=_;(simp;done);done|intro h;simp at h;omega|intro h;simp at h
 ·rw[zn h]
  rw[e]at h;generalize T.withinB o.after.dev 1 64=A at*;generalize T.withinB o.after.seq 1 1048576=B at*;generalize T.withinB o.at_ 0 1999=C at*;refine pF Tryz.func183 rfl λst=>?_
  repeat' first|apply wZ;rfl|show Cn _;constructor|exact rfl|(first|apply a|apply c|apply d)|show(_:PV)=_;(by_cases j:o.kind=6<;>by_cases k:o.kind=7<;>simp_all;done);done|apply wY;rfl|intro h;simp at h;omega|intro h;simp at h
def aE4 :List (Value×PV):=[(.int .i64 2, .seq [I1 0,I1 1]),(.int .i64 3, .seq [I1 2]),(.int .i64 4, .seq [I1 3]),(.int .i64 5, .seq [I1 3]),(.int .i64 6, .seq [I1 4]),(.int .i64 7, .seq [I1 4])]
theorem mR :PF Tryz.prog 181 [] (.fmap aE4):=by
 refine pF Tryz.func181 rfl λst=>?_
 focus(repeat' first|apply jW 0;rfl;exact aA _ _ _|exact Cn.any ⟨_,_,st,rfl,zwr _,StSub.via id a (λj h=>by repeat (first|refine Eq.trans (aB h) ?_|exact rfl)),rfl,rfl⟩|apply wZ;rfl|show Cn _;constructor|refine pK rfl λid a=>?_|apply sE aS;exact .inl rfl;(iterate 7 rfl);exact aA _ _ _;rfl)
def acG(k:Int):List Int:=if k=2 then[0,1]else if k=3 then[2]else if k=4\/k=5 then[3]else if k=6\/k=7 then[4]else[]
theorem aAs(k:Int):(acG k).length<=2:=by
 unfold acG
 (repeat' split)<;>simp
theorem aEJ(k c:Int):((acG k).any λy=>decide (c=y))=aiZ k c:=by
 unfold acG aiZ
 repeat' split
 all_goals first|rfl|(rw[Bool.eq_iff_iff];simp)
theorem apC{k:Int}(a:2<=k)(c:k<=7):iJ tt 228 aE4 (.int .i64 k) false=some (.seq ((acG k).map I1)):=by
 have:k=2\/k=3\/k=4\/k=5\/k=6\/k=7:=by omega
 rcases this with rfl|rfl|rfl|rfl|rfl|rfl<;>rfl
theorem afS(l:List Int)(x:Int)(hl:l.length<4611686018427387904):PF Tryz.prog 180 [.seq (l.map I1),vi x] (vb (l.any λy=>decide (x=y))):=by
 have hx:PF Tryz.prog 253 [.seq (l.map I1),vi x] (vi (cY (λy=>decide (x=y)) l)):=by
  refine pF Tryz.func253 rfl λst=>?_
  repeat' first|apply wZ;rfl|show Cn _;constructor
  refine aC (X:={y:Nat//y<=l.length/\∀j (h:j<y) (d:j<l.length),decide (x=l[j])=false}) (λi=>(((((St.nil 19 st).pv 0 (.seq (l.map I1))).pv 1 (vi x)).pv 7 (vi ((l.map I1).length:Nat))).pv 8 (vi (i.1:Nat)))) (λi=>l.length-i.1) ⟨0,by omega,by omega⟩ ?_ λi=>?_
  ·repeat' first|show Cn _;constructor|exact rfl
  obtain⟨i,c,a⟩:=i;dsimp only
  repeat' first|refine⟨⟨i+1,by omega,λj c d=>by rcases zls.1 c with q|q;exact a j q d;subst q;exact decide_eq_false (by simp_all)⟩,?_,?_⟩|apply wZ;rfl|show Cn _;constructor|exact rfl|show(_:PV)=_;(first|unfold cY;rw[lN (f:=λy=>decide (x=y)) ‹_› (by simp_all) a];done|unfold cY;rw[mS (f:=λy=>decide (x=y)) ‹_› a]);done|apply wI;rfl|apply gE;omega|omega|simp only[zql];omega|intro h;simp at h|intro h
 have e:decide (cY (λy=>decide (x=y)) l>=0)=l.any λy=>decide (x=y):=by
  unfold cY;cases h:l.findIdx? (λy=>decide (x=y))with
  |none=>
   have:=List.findIdx?_eq_none_iff.1 h;rw[Bool.eq_iff_iff,List.any_eq_true];simp only[zde];constructor
   ·intro q;omega
   ·rintro⟨y,hy,q⟩
    have:=this y hy;simp[q]at this
  |some k=>
   obtain⟨g,m,_⟩:=List.findIdx?_eq_some_iff_getElem.1 h;rw[Bool.eq_iff_iff,List.any_eq_true];constructor
   ·exactλ_=>⟨_,zgm g,m⟩
   ·intro _;simp
 refine pF Tryz.func180 rfl λst=>?_
 repeat' first|apply wZ;rfl|show Cn _;constructor|exact rfl|apply hx|show(_:PV)=_;(rw[<-e]);done|apply wY;rfl
theorem atL(t:Tb)(o:Ot)(ht:t.cols.length<1000000000000)(hk:2<=o.kind/\o.kind<=7):PF Tryz.prog 116 [.agg t.cells, .agg o.cells] (vi (adX t o)):=by
 obtain⟨d,e⟩:=hk;have hp:=atS o;have a:=apC d e;unfold adX;by_cases h0:o.col<0\/o.col>=t.cols.length
 ·rw[zp h0]
  refine pF Tryz.func116 rfl λst=>?_
  repeat' first|apply wZ;rfl|show Cn _;constructor|exact rfl|intro h;simp at h;omega|intro h;simp at h
 rw[zn h0];by_cases f:o.col=0
 ·rw[zp f]
  refine pF Tryz.func116 rfl λst=>?_
  repeat' first|apply wZ;rfl|show Cn _;constructor|exact rfl|omega|intro h;simp at h;omega|intro h;simp at h|intro h
 rw[zn f];obtain⟨j,hj⟩:∃j:Nat,o.col=j:=⟨o.col.toNat,by omega⟩;have c:j<t.cols.length:=by omega
 rw[hj,Int.toNat_natCast,getElem!_pos t.cols j c];have hc:=afS (acG o.kind) t.cols[j].kind (by have:=aAs o.kind;omega);rw[aEJ]at hc;have hv:=aCq t.cols[j] o;generalize tF t.cols[j] o=V at*;generalize alJ o=i at*;generalize aiZ o.kind t.cols[j].kind=F at*;generalize(acG o.kind).map I1=k at*;cases F with
 |false=>
  rw[zp rfl];refine pF Tryz.func116 rfl λst=>?_
  (repeat' first|apply iX;(intro hw;exact hj);(apply gE;omega);rfl|apply wZ;rfl|show Cn _;constructor|exact rfl|apply KR.mk;kernel_rfl|(first|apply mR|apply hc)|apply lV pk;(iterate 4 rfl);(focus repeat' constructor);rfl;exact a;rfl|apply wY;rfl|apply wI;rfl|omega|intro h;simp at h;omega|intro h;simp at h|intro h)
 |true=>
 rw[zn (by simp)];by_cases g:V≠0
 ·rw[zp g]
  refine pF Tryz.func116 rfl λst=>?_
  repeat' first|apply iX;(intro hw;exact hj);(apply gE;omega);rfl|apply wZ;rfl|show Cn _;constructor|exact rfl|apply KR.mk;kernel_rfl|(first|apply mR|apply hc|apply hv)|apply lV pk;(iterate 4 rfl);(focus repeat' constructor);rfl;exact a;rfl|apply wY;rfl|apply wI;rfl|omega|intro h;simp at h;omega|intro h;simp at h|intro h
 rw[zn g];cases i with
 |false=>
  rw[zp rfl];refine pF Tryz.func116 rfl λst=>?_
  (repeat' first|apply iX;(intro hw;exact hj);(apply gE;omega);rfl|apply wZ;rfl|show Cn _;constructor|exact rfl|apply KR.mk;kernel_rfl|(first|apply mR|apply hc|apply hv|apply hp)|apply lV pk;(iterate 4 rfl);(focus repeat' constructor);rfl;exact a;rfl|apply wY;rfl|apply wI;rfl|omega|intro h;simp at h;omega|intro h;simp at h|intro h)
 |true=>
  rw[zn (by simp)];refine pF Tryz.func116 rfl λst=>?_
  repeat' first|apply iX;(intro hw;exact hj);(apply gE;omega);rfl|apply wZ;rfl|show Cn _;constructor|exact rfl|apply KR.mk;kernel_rfl|(first|apply mR|apply hc|apply hv|apply hp)|apply lV pk;(iterate 4 rfl);(focus repeat' constructor);rfl;exact a;rfl|apply wY;rfl|apply wI;rfl|omega|intro h;simp at h;omega|intro h;simp at h|intro h
theorem anL(s:Sc)(o:Ot)(hs:s.length<1000000000000)(ht:∀t∈s,t.cols.length<1000000000000)(n:∀t∈s,PF Tryz.prog 124 [.seq (t.cols.map Co.cells), .seq (o.row.map Vl.cells)] (vi (eS t o.row))):PF Tryz.prog 62 [.agg (scC s), .agg o.cells] (vi (gS s o)):=by
 have c:=dW o.kind 1 8;have g:(s.map Tb.cells).length=s.length:=zql _;have d:=dW o.table 0 (((s.map Tb.cells).length:Nat)-1);unfold T.withinB at c d;unfold gS;by_cases h0:o.kind<1\/o.kind>8
 ·rw[zp h0]
  have e:(decide (o.kind>=1)&&decide (o.kind<=8))=false:=by rw[<-Bool.not_eq_true];simp;omega
  rw[e]at c;refine pF Tryz.func62 rfl λst=>?_
  repeat' first|apply wZ;rfl|show Cn _;constructor|exact rfl|apply c|apply wY;rfl
 rw[zn h0];have e:(decide (o.kind>=1)&&decide (o.kind<=8))=true:=by simp;omega
 rw[e]at c;by_cases i:o.table<0\/o.table>=s.length
 ·rw[zp i]
  have e:(decide (o.table>=0)&&decide (o.table<=((s.map Tb.cells).length:Int)-1))=false:=by rw[<-Bool.not_eq_true,g];simp;omega
  rw[e]at d;refine pF Tryz.func62 rfl λst=>?_
  repeat' first|apply wZ;rfl|show Cn _;constructor|exact rfl|(first|apply c|apply d)|apply wY;rfl|omega
 rw[zn i];have e:(decide (o.table>=0)&&decide (o.table<=((s.map Tb.cells).length:Int)-1))=true:=by rw[g];simp;omega
 rw[e]at d;obtain⟨k,hk⟩:∃k:Nat,o.table=k:=⟨o.table.toNat,by omega⟩;have f:k<s.length:=by omega
 have hm:=zgm f;rw[hk,Int.toNat_natCast,getElem!_pos s k f];have hi:=amA s[k] o (n _ hm);by_cases j:o.kind=1
 ·rw[zp j]
  refine pF Tryz.func62 rfl λst=>?_
  repeat' first|apply iX;(intro hw;exact hk);(apply gE;omega);rfl|apply wZ;rfl|show Cn _;constructor|exact rfl|apply KR.mk;kernel_rfl|(first|apply c|apply d|apply hi)|apply wY;rfl|apply wI;rfl|omega|intro h
 rw[zn j];have a:=nX o.key;generalize aAY o.key=K at*;by_cases l:o.row.length>0\/K=false
 ·rw[zp l]
  refine pF Tryz.func62 rfl λst=>?_
  repeat' first|apply wZ;rfl|show Cn _;constructor|exact rfl|(first|apply c|apply d|apply a)|apply wY;rfl|omega|exfalso;grind|intro h;simp at h|intro h
 rw[zn l];by_cases h8:o.kind≠8
 ·rw[zp h8]
  have hc:=atL s[k] o (ht _ hm) (by omega);refine pF Tryz.func62 rfl λst=>?_
  repeat' first|apply iX;(intro hw;exact hk);(apply gE;omega);rfl|apply wZ;rfl|show Cn _;constructor|exact rfl|apply KR.mk;kernel_rfl|(first|apply c|apply d|apply a|apply hc)|apply wY;rfl|apply wI;rfl|omega|exfalso;grind|intro h;simp at h|intro h
 rw[zn h8];have hb:=adM o;cases m:uF o with
 |false=>
  rw[zp rfl];rw[m]at hb;refine pF Tryz.func62 rfl λst=>?_
  (repeat' first|apply wZ;rfl|show Cn _;constructor|exact rfl|(first|apply c|apply d|apply a|apply hb)|apply wY;rfl|omega|intro h;simp at h|intro h)
 |true=>
  rw[zn (by simp)];rw[m]at hb;refine pF Tryz.func62 rfl λst=>?_
  repeat' first|apply wZ;rfl|show Cn _;constructor|exact rfl|(first|apply c|apply d|apply a|apply hb)|apply wY;rfl|omega|exfalso;grind|intro h;simp at h|intro h
theorem aGZ{α:Type}(f:α->Bool)(l:List α):decide (cY f l>=0)=l.any f:=by
 unfold cY;cases h:l.findIdx? f with
 |none=>
  have:=List.findIdx?_eq_none_iff.1 h;rw[Bool.eq_iff_iff,List.any_eq_true];simp only[zde];constructor
  ·intro q;omega
  ·rintro⟨y,hy,q⟩
   have:=this y hy;rw[q]at this;cases this
 |some k=>
  obtain⟨a,c,_⟩:=List.findIdx?_eq_some_iff_getElem.1 h;rw[Bool.eq_iff_iff,List.any_eq_true];constructor
  ·exactλ_=>⟨_,zgm a,c⟩
  ·intro _;simp
theorem aBg(c:FuncId)(caps:List PV)(f:Int->Bool)(l:List Int)(hl:l.length<4611686018427387904)(hf:∀p,PF Tryz.prog c ([vi p]++caps) (vb (f p))):PF Tryz.prog 252 [.seq (l.map I1), .fn c caps] (vi (cY f l)):=by
 refine pF Tryz.func252 rfl λst=>?_
 repeat' first|apply wZ;rfl|show Cn _;constructor
 refine aC (X:={x:Nat//x<=l.length/\∀j (h:j<x) (d:j<l.length),f l[j]=false}) (λi=>(((((St.nil 19 st).pv 0 (.seq (l.map I1))).pv 1 (.fn c caps)).pv 7 (vi ((l.map I1).length:Nat))).pv 8 (vi (i.1:Nat)))) (λi=>l.length-i.1) ⟨0,by omega,by omega⟩ ?_ λi=>?_
 ·repeat' first|show Cn _;constructor|exact rfl
 obtain⟨i,hi,a⟩:=i;dsimp only
 repeat' first|refine⟨⟨i+1,by omega,λj e d=>by rcases zls.1 e with q|q;exact a j q d;subst q;assumption⟩,?_,?_⟩|apply wZ;rfl|show Cn _;constructor|exact rfl|apply hf|show(_:PV)=_;(first|unfold cY;rw[lN ‹_› ‹_› a];done|unfold cY;rw[mS ‹_› a]);done|apply wY;rfl|apply wI;rfl|apply gE;omega|omega|simp only[zql];omega|intro h;simp at h|intro h
theorem aAZ(n:Int):PF Tryz.prog 178 [vi n] (vb (!okV n)):=by
 have e:(!okV n)=(decide (n<0)||decide (n>1048576)):=by unfold okV;rw[Bool.eq_iff_iff];simp<;>omega
 rw[e];refine pF Tryz.func178 rfl λst=>?_
 repeat' first|apply wZ;rfl|show Cn _;constructor|exact rfl
theorem alS(v:List Int)(hl:v.length<1000000000000):PF Tryz.prog 113 [.seq (v.map I1)] (vb (aDd v)):=by
 have hx:=aBg 178 [] (λn=> !okV n) v (by omega) aAZ;have hc:PF Tryz.prog 179 [.seq (v.map I1), .fn 178 []] (vb (v.any λn=> !okV n)):=by
  rw[<-aGZ];generalize cY (λn=> !okV n) v=X at*;refine pF Tryz.func179 rfl λst=>?_
  repeat' first|apply wZ;rfl|show Cn _;constructor|exact rfl|apply hx|apply wY;rfl
 have e:aDd v=(decide ((v.length:Int)<=64)&& !(v.any λn=> !okV n)):=by
  unfold aDd;rw[Bool.eq_iff_iff];simp;omega
 rw[e];generalize(v.any λn=> !okV n)=A at*;refine pF Tryz.func113 rfl λst=>?_
 repeat' first|apply wZ;rfl|show Cn _;constructor|exact rfl|apply hc|show(_:PV)=_;(simp only[zql];done);done|apply wY;rfl
theorem aCP(v:List Int)(d:Int)(hl:v.length<1000000000000):PF Tryz.prog 309 [.seq (v.map I1),vi d] (vi (ofV v d)):=by
 unfold ofV;by_cases h:d<1\/d>v.length
 ·rw[zp h]
  refine pF Tryz.func309 rfl λst=>?_
  repeat' first|apply wZ;rfl|show Cn _;constructor|exact rfl|intro h;simp at h;omega|intro h;simp at h
 ·rw[zn h]
  obtain⟨k,hk⟩:∃k:Nat,d=k+1:=⟨(d-1).toNat,by omega⟩;have c:k<v.length:=by omega
  have e:(d-1).toNat=k:=by omega
  rw[e,getElem!_pos v k c];have a:d-1=((k:Nat):Int):=by omega
  refine pF Tryz.func309 rfl λst=>?_
  repeat' first|apply iX;(intro hw;exact a);(apply gE;omega);rfl|apply wZ;rfl|show Cn _;constructor|exact rfl|apply wI;rfl|omega|intro h;simp at h;omega|intro h;simp at h
theorem ajA(v:List Int)(d:Dt)(hl:v.length<1000000000000):PF Tryz.prog 260 [.seq (v.map I1), .agg d.cells] (vb (arQ v d)):=by
 have h:=aCP v d.dev hl;unfold arQ;generalize ofV v d.dev=N at*;refine pF Tryz.func260 rfl λst=>?_
 repeat' first|apply wZ;rfl|show Cn _;constructor|exact rfl|apply KR.mk;kernel_rfl|apply h|apply wY;rfl
theorem wkC(n:Int):Wk (.agg [vi 2,vi 1,vi n, .val (.string e0), .val (.slice none 0 0)]) (.agg (qE n).cells):= .agg (.cons (zwr _) (.cons (zwr _) (.cons (zwr _) (.cons (zwr _) (.cons Wk.nil .nil)))))
def inL(n:Int):Prop:= -4398046511104<=n/\n<=4398046511104
theorem aCB{l:List Int}{i:Nat}(h:i<l.length):(l.take (i+1)).sum=(l.take i).sum+l[i]:=by
 rw[List.take_succ_eq_append_getElem h,List.sum_append];simp
theorem aIq{l:List Int}(h:∀n∈l,inL n): -4398046511104*(l.length:Int)<=l.sum/\l.sum<=4398046511104*(l.length:Int):=by
 induction l with
 |nil=>simp
 |cons a l ih=>
  have c:=h a (by simp);have d:=ih λn hn=>h n (List.mem_cons_of_mem _ hn);unfold inL at c;rw[List.sum_cons,zlc];omega
theorem xS(l:List Int)(hl:l.length<=10)(h:∀n∈l,inL n):PF Tryz.prog 262 [.seq (l.map I1)] (.agg (qE l.sum).cells):=by
 refine pF Tryz.func262 rfl λst=>?_
 focus(repeat' first|apply wZ;rfl|show Cn _;constructor)
 refine aC (X:={x:Nat//x<=l.length}) (λi=>((((((St.nil 19 st).var 2 116 ([vi 0,vi 0,vi 0,vs e0, .val (.slice none 0 0)])).pv 3 (vi ((l.take i.1).sum))).pv 6 (.seq (l.map I1))).pv 7 (vi ((l.map I1).length:Nat))).pv 8 (vi (i.1:Nat)))) (λi=>l.length-i.1) ⟨0,by omega⟩ ?_ λi=>?_
 ·repeat' first|show Cn _;constructor|exact rfl
 obtain⟨i,hi⟩:=i;dsimp only;by_cases a:l.length<=i
 ·rw[ztl a]
  repeat' first|exact Cn.any ⟨_,_,_,rfl,wkC _,zsr _,rfl,rfl⟩|apply wZ;rfl|show Cn _;constructor|simp only[zql];omega|intro h;simp at h
 have c:i<l.length:=by omega
 have hn:=h _ (zgm c);have hs:=aIq (l:=l.take i) λn hn=>h n (List.mem_of_mem_take hn);have d:(l.take i).length=i:=by rw[zlt];omega
 have e:=aCB c;rw[d]at hs;unfold inL at hn;generalize(l.take i).sum=S at*
 repeat' first|refine⟨⟨i+1,by omega⟩,?_,?_⟩;(dsimp only;rw[e])|apply wZ;rfl|show Cn _;constructor|exact rfl|apply wI;rfl|apply gE;omega|omega|simp only[zql];omega|intro h;simp at h
end
end Go.Proofs.YtnogfoojjaainaaGreatDoor
namespace Go.Proofs.YtnogfoojjaainaaGreatDoor.T
open Go Go.Abs
section
set_option maxRecDepth 10000
set_option maxHeartbeats 4000000
structure Keeps (g:Pt->Pt):Prop where
 val:∀p,(g p).val=p.val
 dot:∀p,(g p).dot=p.dot
 at_:∀p,(g p).at_=p.at_
 time:∀p,(g p).time=p.time
 after:∀p,(g p).after=p.after
 afterAt:∀p,(g p).afterAt=p.afterAt
theorem Keeps.name{g:Pt->Pt}(hg:Keeps g)(p:Pt):aG (g p)=aG p:=by unfold aG;rw[hg.dot,hg.at_]
theorem Keeps.parent{g:Pt->Pt}(hg:Keeps g)(p:Pt):aH (g p)=aH p:=by unfold aH;rw[hg.after,hg.afterAt]
theorem Keeps.stamp{g:Pt->Pt}(hg:Keeps g)(p:Pt):aM (g p)=aM p:=by unfold aM;rw[hg.dot,hg.time]
theorem Keeps.formed{g:Pt->Pt}(hg:Keeps g)(p:Pt):bM (g p)=bM p:=by unfold bM;rw[hg.val,hg.time,hg.name,hg.parent]
theorem Keeps.ahead{g:Pt->Pt}(hg:Keeps g)(a b:Pt):dK (g a) (g b)=dK a b:=by unfold dK;rw[hg.stamp,hg.stamp,hg.at_,hg.at_]
theorem Keeps.names{g:Pt->Pt}(hg:Keeps g)(l:List Pt):(l.map g).map aG=l.map aG:=by
 rw[List.map_map];exact List.map_congr_left λp _=>hg.name p
theorem Keeps.whole{g:Pt->Pt}(hg:Keeps g)(l:List Pt):Whole (l.map g)↔Whole l:=by
 constructor
 ·intro h
  refine⟨⟨λp hp=>?_,?_,λp hp q hq e=>?_⟩,λp hp=>?_⟩
  ·rw[<-hg.formed];exact h.formed _ (List.mem_map_of_mem hp)
  ·rw[<-hg.names];exact h.nodup
  ·rw[<-hg.time p,<-hg.time q];exact h.times _ (List.mem_map_of_mem hp) _ (List.mem_map_of_mem hq) (by rw[hg.dot,hg.dot,e])
  ·rcases h.up _ (List.mem_map_of_mem hp)with e|⟨k,i,c,d⟩
   ·left;rw[<-hg.parent];exact e
   ·obtain⟨u,hu,rfl⟩:=List.mem_map.1 i
    right;exact⟨u,hu,by rw[<-hg.name,c,hg.parent],by rw[<-hg.ahead u p];exact d⟩
 ·intro h
  refine⟨⟨λj a=>?_,?_,λj a q' f e=>?_⟩,λj a=>?_⟩
  ·obtain⟨p,hp,rfl⟩:=List.mem_map.1 a;rw[hg.formed];exact h.formed p hp
  ·rw[hg.names];exact h.nodup
  ·obtain⟨p,hp,rfl⟩:=List.mem_map.1 a
   obtain⟨q,hq,rfl⟩:=List.mem_map.1 f;rw[hg.time,hg.time];exact h.times p hp q hq (by rw[hg.dot,hg.dot]at e;exact e)
  ·obtain⟨p,hp,rfl⟩:=List.mem_map.1 a
   rcases h.up p hp with e|⟨u,hu,c,d⟩
   ·left;rw[hg.parent];exact e
   ·right;exact⟨g u,List.mem_map_of_mem hu,by rw[hg.name,c,hg.parent],by rw[hg.ahead];exact d⟩
theorem Keeps.anc{g:Pt->Pt}(hg:Keeps g){l:List Pt}{p:Pt}{s:List Pt}(h:Anc l p s):Anc (l.map g) (g p) (s.map g):=by
 induction h with
 |root hp h0=>exact .root (List.mem_map_of_mem hp) (by rw[hg.parent];exact h0)
 |step hp hu e h0 _ ih=>rw[List.map_append];exact .step (List.mem_map_of_mem hp) (List.mem_map_of_mem hu) (by rw[hg.name,hg.parent];exact e) (by rw[hg.parent];exact h0) ih
theorem Keeps.lex{g:Pt->Pt}(hg:Keeps g):∀{s t:List Pt},gF s t->gF (s.map g) (t.map g)
 |_,[],h=>by cases ‹List Pt› <;>exact h.elim
 |[],_::_,_=>trivial
 |a::s,b::t,h=>by
  rcases h with⟨rfl,h⟩|h
  ·exact .inl ⟨rfl,hg.lex h⟩
  ·refine .inr ?_
   rw[fI,hg.time,hg.time,hg.dot,hg.dot,hg.at_,hg.at_,<-fI];exact h
theorem Keeps.order{g:Pt->Pt}(hg:Keeps g)(l:List Pt):cS (l.map g)=(cS l).map g:=by
 by_cases d:Whole l/\l.length<=2000
 ·obtain⟨e,f⟩:=fZ d.1 d.2
  refine aaL ((hg.whole l).2 d.1) (by rw[zql];exact d.2) (e.map g) ?_;rw[List.pairwise_map];exact f.imp λ⟨s,t,a,b,c⟩=>⟨_,_,hg.anc a,hg.anc b,hg.lex c⟩
 ·rw[jJ d,jJ (by rw[hg.whole,zql];exact d)];rfl
def geT(k:Nm)(p:Pt):Pt:=if aG p=k then ajK p else p
theorem aiG(k:Nm):Keeps (geT k):=by
 constructor<;>intro p<;>unfold geT ajK<;>split<;>rfl
theorem eraseP_len(k:Nm)(c:Cl):(eraseP c k).parts.length=c.parts.length:=zql _
theorem amL{c:Cl}(a:c.kind=4)(d:c.val=Vl.zero)(e:Whole c.parts)(hl:c.parts.length<=2000)(ho:cS c.parts=c.parts):rightP c=0:=by
 unfold rightP;rw[zn (by simp[a]),zn (by simp[d,(eB _).2 e]),zn (by omega),zn (by simp[ho])]
theorem right_erase{c:Cl}(k:Nm)(h:rightP c=0):rightP (eraseP c k)=0:=by
 obtain⟨a,d,e,hl,ho⟩:=iE h;refine amL a d (((aiG k).whole _).2 e) (by rw[eraseP_len];exact hl) ?_;show cS (c.parts.map (geT k))=c.parts.map (geT k);rw[(aiG k).order,ho]
theorem awU{c:Cl}{w:Sp}{up:Nm}(h:fC c w up=0)(h0:up≠Nm.zero):∃u∈c.parts,aG u=up/\¬(aM u≠w/\gM (aM u) w=false):=by
 unfold fC at h;rw[zn h0]at h;cases a:c.parts.findIdx? (λp=>decide (aG p=up))with
 |none=>rw[a]at h;cases h
 |some i=>
  rw[a]at h;obtain⟨hk,d,_⟩:=List.findIdx?_eq_some_iff_getElem.1 a;simp only[zgg hk]at h;refine⟨c.parts[i],zgm hk,of_decide_eq_true d,λq=>?_⟩;rw[zp q]at h;cases h
theorem type_len(c:Cl)(s:ByteArray)(w:Sp)(up:Nm):(typeP c s w up).1.parts.length<=c.parts.length+s.size:=by
 unfold typeP;split
 ·exact Nat.zero_le _
 ·split
  ·exact Nat.zero_le _
  ·split
   ·exact Nat.zero_le _
   ·split
    ·exact Nat.zero_le _
    ·refine Nat.le_trans (yY _) ?_
     rw[zla,abX];exact Nat.le_refl _
end
section
set_option maxRecDepth 10000
set_option maxHeartbeats 4000000
structure Is (c:Cl) (l:List Pt):Prop where
 kind:c.kind=4
 val:c.val=Vl.zero
 whole:Whole l
 len:l.length<=2000
 parts:c.parts=cS l
theorem Is.perm{c:Cl}{l:List Pt}(h:Is c l):c.parts.Perm l:=by rw[h.parts];exact(fZ h.whole h.len).1
theorem Is.of{c:Cl}(h:rightP c=0):Is c c.parts:=by
 obtain⟨a,d,e,hl,ho⟩:=iE h;exact⟨a,d,e,hl,ho.symm⟩
theorem Whole.perm'{l m:List Pt}(hp:l.Perm m)(h:Whole l):Whole m:=h.perm hp
theorem Is.right{c:Cl}{l:List Pt}(h:Is c l):rightP c=0:=by
 refine amL h.kind h.val (h.whole.perm' h.perm.symm) (by rw[h.perm.length_eq];exact h.len) ?_;rw[aaC h.perm];exact h.parts.symm
def aaJ(w:Sp):Dt:=⟨w.dev,w.seq⟩
def wOK(w:Sp):Prop:=withinB w.time 1 1125899906842624=true/\mayN ⟨⟨w.dev,w.seq⟩,0⟩=true
instance(w :Sp):Decidable (wOK w):=inferInstanceAs (Decidable (_/\_))
def wrL(l:List Pt)(w:Sp):Int:=if wOK w then wrF (aaJ w) w.time l 0 else-1
theorem atA(c:Cl)(w:Sp):dI c w=wrL c.parts w:=rfl
theorem aD2{d:Dt}{t:Int}{l m:List Pt}(h:l.Perm m):∀n,wrF d t l n=wrF d t m n:=by
 induction h with
 |nil=>intro n;rfl
 |cons x _ ih=>intro n;simp only[wrF,ih]
 |swap x y l=>
  intro n;simp only[wrF];by_cases c:x.dot=d
  ·by_cases e:y.dot=d
   ·simp only[c,e,ne_eq,not_true_eq_false,if_false]
    by_cases a:x.time=t
    ·by_cases h4:y.time=t
     ·simp only[a,h4,not_true_eq_false,if_false];congr 1;omega
     ·simp only[a,h4,not_true_eq_false,not_false_eq_true,if_false,if_true]
    ·by_cases h4:y.time=t
     ·simp only[a,h4,not_true_eq_false,not_false_eq_true,if_false,if_true]
     ·simp only[a,h4,not_false_eq_true,if_true]
   ·simp only[c,e,ne_eq,not_true_eq_false,not_false_eq_true,if_false,if_true]
  ·simp only[c,ne_eq,not_false_eq_true,if_true]
 |trans _ _ ih1 ih2=>intro n;rw[ih1,ih2]
theorem aC4{l m:List Pt}(h:l.Perm m)(w:Sp):wrL l w=wrL m w:=by unfold wrL;rw[aD2 h]
theorem ajN{d:Dt}{t:Int}:∀{l:List Pt}{n:Int},0<=n->(∀p∈l,0<=p.at_)->wrF d t l n= -1\/n<=wrF d t l n
 |[],n,_,_=> .inr (Int.le_refl _)
 |p::r,n,h,hf=>by
  have hp:=hf p (by simp)
  have a:∀q∈r,0<=q.at_:=λq hq=>hf q (by simp[hq])
  simp only[wrF]
  split
  ·exact ajN h a
  ·split
   ·exact .inl rfl
   ·rcases ajN (d:=d) (t:=t) (n:=max n (p.at_+1)) (by omega) a with e|e
    ·exact .inl e
    ·exact .inr (by omega)
theorem akT{d:Dt}{t:Int}:∀{l:List Pt}{n:Int},(∀p∈l,0<=p.at_)->0<=n->0<=wrF d t l n->∀p∈l,p.dot=d->p.time=t/\p.at_<wrF d t l n
 |[],_,_,_,_,p,h,_=>by cases h
 |x::r,n,hf,hn,h0,p,hp,e=>by
  have hx:=hf x (by simp)
  have c:∀q∈r,0<=q.at_:=λq hq=>hf q (by simp[hq])
  simp only[wrF]at h0⊢
  rcases zmc.1 hp with rfl|hp
  ·rw[zn (by simp[e])]at h0⊢
   split at h0
   ·omega
   ·rename_i a
    rw[zn a];refine⟨by simpa using a,?_⟩;rcases ajN (d:=d) (t:=t) (l:=r) (n:=max n (p.at_+1)) (by omega) c with q|q<;>omega
  ·split at h0
   ·rename_i a;rw[zp a];exact akT c hn h0 p hp e
   ·rename_i a
    rw[zn a];split at h0
    ·omega
    ·rename_i f;rw[zn f];exact akT c (by omega) h0 p hp e
def dP(l:List Pt)(w:Sp)(up:Nm):Prop:=up=Nm.zero\/∃u∈l,aG u=up/\(aM u=w\/gM (aM u) w=true)
theorem auA{c:Cl}{w:Sp}{up:Nm}(hn:named c.parts):fC c w up=0↔dP c.parts w up:=by
 constructor
 ·intro h
  by_cases h0:up=Nm.zero
  ·exact .inl h0
  ·obtain⟨u,hu,e,a⟩:=awU h h0
   refine .inr ⟨u,hu,e,?_⟩;by_cases d:aM u=w
   ·exact .inl d
   ·refine .inr ?_
    cases h4:gM (aM u) w
    ·exact absurd ⟨d,h4⟩ a
    ·rfl
 ·intro h
  unfold fC;by_cases h0:up=Nm.zero
  ·rw[zp h0]
  ·rw[zn h0]
   obtain⟨u,hu,e,a⟩:=h.resolve_left h0;cases g:c.parts.findIdx? (λp=>decide (aG p=up))with
   |none=>
    have:=List.findIdx?_eq_none_iff.1 g u hu;simp[e]at this
   |some i=>
    obtain⟨hk,f,_⟩:=List.findIdx?_eq_some_iff_getElem.1 g;simp only[zgg hk];have j:c.parts[i]=u:=hn _ (zgm hk) _ hu ((of_decide_eq_true f).trans e.symm);rw[j,zn];rintro⟨d,h4⟩;rcases a with a|a
    ·exact d a
    ·rw[h4]at a;cases a
theorem aCg{l m:List Pt}(h:l.Perm m)(w:Sp)(up:Nm):dP l w up↔dP m w up:=
 or_congr Iff.rfl ⟨λ⟨u,hu,q⟩=>⟨u,h.subset hu,q⟩,λ⟨u,hu,q⟩=>⟨u,h.symm.subset hu,q⟩⟩
theorem aJu{p:Pt}(h:bM p=true):mayN (aG p)=true:=by
 simp only[bM,zba]at h;exact h.1.2
theorem aIV{w:Sp}(hw:wOK w){n:Int}(h0:0<=n)(a:n<=1999):mayN ⟨aaJ w,n⟩=true:=by
 have:=hw.2;show mayN ⟨⟨w.dev,w.seq⟩,n⟩=true;simp only[mayN,withinB,zba,zde]at this⊢;exact⟨this.1,h0,a⟩
theorem atT{l:List Pt}{w:Sp}{n:Int}{up:Nm}(b:UInt8)(d:Whole l)(hw:wOK w)(h0:0<=n)(z:n<=1999)(ha:∀p∈l,p.dot=aaJ w->p.time=w.time/\p.at_<n)
  (g:up=Nm.zero\/∃u∈l,aG u=up/\(aM u=w\/gM (aM u) w=true)):
  Whole (l++[⟨⟨1,(b.toNat:Int),e0⟩,⟨w.dev,w.seq⟩,n,w.time,up.dot,up.at_,false⟩]):=by
 have hb:=b.toNat_lt
 obtain⟨x,hx⟩:∃x:Pt,(⟨⟨1,(b.toNat:Int),e0⟩,⟨w.dev,w.seq⟩,n,w.time,up.dot,up.at_,false⟩:Pt)=x:=⟨_,rfl⟩
 have i:aG x=⟨aaJ w,n⟩:=by rw[<-hx];rfl
 have j:aH x=up:=by rw[<-hx];rfl
 have h:x.dot=aaJ w:=by rw[<-hx];rfl
 have a:x.time=w.time:=by rw[<-hx]
 have v:aM x=w:=by rw[<-hx];rfl
 have t:x.at_=n:=by rw[<-hx]
 have y:x.val=⟨1,(b.toNat:Int),e0⟩:=by rw[<-hx]
 rw[hx]
 have r:up=Nm.zero\/mayN up=true:=g.imp id λ⟨u,hu,e,_⟩=>by rw[<-e];exact aJu (d.formed u hu)
 have o:bM x=true:=by
  unfold bM;rw[y,a,i,j,aIV hw h0 z,hw.1];have k:withinB (b.toNat:Int) 0 255=true:=by
   unfold withinB;rw[zba,zde,zde];omega
  rcases r with e|e
  ·simp[k,e]
  ·simp[k,e]
 refine⟨⟨λp hp=>?_,?_,λp hp q hq e=>?_⟩,λp hp=>?_⟩
 ·rcases zma.1 hp with hp|hp
  ·exact d.formed p hp
  ·rw[zms.1 hp];exact o
 ·rw[List.map_append,List.nodup_append]
  refine⟨d.nodup,by simp,λm hm A f e=>?_⟩;obtain⟨p,hp,rfl⟩:=List.mem_map.1 hm;rw[List.map_singleton,zms]at f;rw[f,i]at e;injection e with k e2
  have:=(ha p hp k).2;omega
 ·rcases zma.1 hp with hp|hp<;>rcases zma.1 hq with hq|hq
  ·exact d.times p hp q hq e
  ·rw[zms.1 hq]at e⊢;rw[a];exact(ha p hp (e.trans h)).1
  ·rw[zms.1 hp]at e⊢;rw[a];exact(ha q hq (e.symm.trans h)).1.symm
  ·rw[zms.1 hp,zms.1 hq]
 ·rcases zma.1 hp with hp|hp
  ·rcases d.up p hp with e|⟨u,hu,e⟩
   ·exact .inl e
   ·exact .inr ⟨u,List.mem_append_left _ hu,e⟩
  ·rw[zms.1 hp,j]
   rcases g with e|⟨u,hu,e,c⟩
   ·exact .inl e
   ·refine .inr ⟨u,List.mem_append_left _ hu,e,?_⟩
    unfold dK;rw[v,t];rcases c with c|c
    ·have hd:u.dot=aaJ w:=by rw[<-c];rfl
     have:=(ha u hu hd).2;simp[c,this]
    ·rw[c];rfl
theorem adH{w:Sp}:∀(bs:List UInt8){l:List Pt}{n:Int}{up:Nm},Whole l->wOK w->0<=n->n+bs.length<=2000->(∀p∈l,p.dot=aaJ w->p.time=w.time/\p.at_<n)->dP l w up->Whole (l++tyF w bs n up)
 |[],l,n,up,hW,_,_,_,_,_=>by rw[tyF,List.append_nil];exact hW
 |b::r,l,n,up,hW,hw,h0,h1,ha,hup=>by
  rw[zlc]at h1
  have a:=atT b hW hw h0 (by omega) ha hup
  have:=adH r (n:=n+1) (up:=⟨⟨w.dev,w.seq⟩,n⟩) a hw (by omega) (by omega) (λp hp e=>by
   rcases zma.1 hp with hp|hp
   ·have:=ha p hp e;exact⟨this.1,by omega⟩
   ·rw[zms.1 hp];exact⟨rfl,by simp only;omega⟩) (.inr ⟨_,List.mem_append_right _ (zms.2 rfl),rfl, .inl rfl⟩)
  rw[List.append_assoc]at this
  exact this
open Classical in
theorem aC5{l:List Pt}(a:Whole l):∀p∈l,0<=p.at_:=λp hp=>(nO (a.formed p hp)).1
theorem aqL(s:ByteArray):s.data.toList.length=s.size:=rfl
theorem Is.type{c:Cl}{l:List Pt}(h:Is c l)(s:ByteArray)(w:Sp)(up:Nm)(hl:l.length+s.size<=2000):
  ((wrL l w<0\/¬dP l w up\/200<s.size\/2000<wrL l w+s.size)/\(typeP c s w up).2≠0)\/
  (0<=wrL l w/\dP l w up/\¬(200<s.size\/2000<wrL l w+s.size))/\(typeP c s w up).2=0/\Is (typeP c s w up).1 (l++tyF w s.data.toList (wrL l w) up):=by
 have hp:=h.perm
 have f:Whole c.parts:=h.whole.perm' hp.symm
 have i:dI c w=wrL l w:=by rw[atA,aC4 hp]
 have g:fC c w up=0↔dP l w up:=by rw[auA f.named,aCg hp]
 have j:c.parts.length=l.length:=hp.length_eq
 unfold typeP
 rw[h.right,i,j]
 simp only[ne_eq,not_true_eq_false,if_false]
 by_cases a:wrL l w<0
 ·left;rw[zp a];exact⟨.inl a,by simp⟩
 ·rw[zn a]
  by_cases e:200<s.size\/2000<l.length+s.size\/2000<wrL l w+s.size
  ·left;rw[zp e];exact⟨by rcases e with q|q|q;exact .inr (.inr (.inl q));omega;exact .inr (.inr (.inr q)),by simp⟩
  ·rw[zn e]
   by_cases d:fC c w up=0
   ·right
    rw[zn (by simp[d])];have hb:=g.1 d;refine⟨⟨by omega,hb,λq=>e (q.imp id .inr)⟩,rfl,h.kind,h.val,?_,?_,?_⟩
    ·have hw:wOK w:=by
      apply Classical.byContradiction;intro q;unfold wrL at a;rw[zn q]at a;omega
     have k:wrL l w=wrF (aaJ w) w.time l 0:=by unfold wrL;rw[zp hw]
     refine adH _ h.whole hw (by omega) (by rw[aqL];omega) ?_ hb;rw[k]at a⊢;exact akT (aC5 h.whole) (Int.le_refl 0) (by omega)
    ·rw[zla,abX,aqL];omega
    ·exact aaC (hp.append_right _)
   ·left
    rw[zp d];exact⟨.inr (.inl λq=>d (g.2 q)),d⟩
end
end Go.Proofs.YtnogfoojjaainaaGreatDoor.T
namespace Go.Proofs.YtnogfoojjaainaaGreatDoor
open Go Go.Abs
set_option maxRecDepth 10000
set_option maxHeartbeats 4000000
theorem rZ{α:Type}(f:α->Bool)(a:α)(l:List α):agK f (a::l)=if f a=true then 0 else agK f l+1:=by
 unfold agK;rw[List.findIdx?_cons];by_cases h:f a=true
 ·rw[zp h,zp h];rfl
 ·rw[zn h,zn (by simpa using h)]
  cases List.findIdx? f l<;>simp
theorem amE{α:Type}{l:List α}{k:Nat}{x y:α}:y∈l.take k++[x]++l.drop k↔y=x\/y∈l:=by
 rw[zma,zma,zms];have h:y∈l↔y∈l.take k\/y∈l.drop k:=by rw[<-zma,List.take_append_drop]
 rw[h];constructor
 ·rintro((q|q)|q)
  ·exact .inr (.inl q)
  ·exact .inl q
  ·exact .inr (.inr q)
 ·rintro(q|q|q)
  ·exact .inl (.inr q)
  ·exact .inl (.inl q)
  ·exact .inr q
theorem atE{α:Type}{r:α->α->Prop}(e:∀a b c,r a b->r b c->r a c){x:α}{f:α->Bool}:∀{l:List α},l.Pairwise r->(∀p∈l,f p=false->r p x)->(∀p∈l,f p=true->r x p)->(l.take (agK f l)++[x]++l.drop (agK f l)).Pairwise r
 |[],_,_,_=>by simp
 |a::l,h,h1,h2=>by
  obtain⟨ha,hl⟩:=List.pairwise_cons.1 h
  rw[rZ]
  by_cases hf:f a=true
  ·rw[zp hf]
   have d:=h2 a (by simp) hf;show(x::a::l).Pairwise r;refine List.pairwise_cons.2 ⟨λy hy=>?_,h⟩;rcases zmc.1 hy with rfl|hy
   ·exact d
   ·exact e _ _ _ d (ha y hy)
  ·rw[zn hf,List.take_succ_cons,List.drop_succ_cons,List.cons_append,List.cons_append]
   refine List.pairwise_cons.2 ⟨λy hy=>?_,atE e hl (λp hp=>h1 p (List.mem_cons_of_mem _ hp)) λp hp=>h2 p (List.mem_cons_of_mem _ hp)⟩;rcases amE.1 hy with rfl|hy
   ·exact h1 a (by simp) (by simpa using hf)
   ·exact ha y hy
theorem aiJ{l:List Pt}{k:Nat}{x y:Pt}:y∈dQ l k [x]↔y=x\/y∈l:=amE
theorem axD{ok:Pt->Bool}{bh:Pt->Pt->Bool}(m:∀{a b c},bh b a=true->bh c b=true->bh c a=true){l:List Pt}:tC ok bh l=true↔(∀p∈l,ok p=true)/\l.Pairwise λa b=>bh b a=true:=by
 constructor
 ·intro h
  have hj:∀j (hj:j<l.length),ok l[j]=true/\(j=0\/bh l[j] (l[j-1]'(by omega))=true):=λj hj=>by
   unfold tC at h
   rw[zal]at h
   have:=h j (List.mem_range.2 hj)
   rw[getElem!_pos l j hj,getElem!_pos l (j-1) (by omega),zba,Bool.or_eq_true,zde]at this
   exact this
  refine⟨λp hp=>by obtain⟨j,e,rfl⟩:=zgo hp;exact(hj j e).1,List.pairwise_iff_getElem.2 λi j hi e k=>?_⟩;have key:∀d,∀h:i+d+1<l.length,bh l[i+d+1] l[i]=true:=λd=>by
   induction d with
   |zero=>intro h;exact(hj (i+1) h).2.resolve_left (by omega)
   |succ d ih=>
    intro h;have f:=ih (by omega);have g:=(hj (i+(d+1)+1) h).2.resolve_left (by omega);exact m f g
  have:=key (j-i-1) (by omega);simp only[show i+(j-i-1)+1=j by omega]at this;exact this
 ·rintro⟨f,g⟩
  refine wP λj hj=>?_;rw[f _ (zgm hj),Bool.true_and];rcases Nat.eq_zero_or_pos j with rfl|h0
  ·rfl
  ·rw[List.pairwise_iff_getElem.1 g (j-1) j (by omega) hj (by omega),Bool.or_true]
theorem uV{c:Cl}:jA c=true↔(c.kind=1/\c.val=Vl.zero)/\(∀p∈c.parts,eF p=true)/\c.parts.Pairwise λa b=>aW b.dot a.dot=true:=by
 unfold jA;rw[zba,zde,axD (bh:=λp q=>aW p.dot q.dot) λd e=>rG d e]
theorem alI{p q:Pt}:dP p q=true↔p.val.n>q.val.n\/p.val.n=q.val.n/\aW p.dot q.dot=true:=by
 unfold dP;rw[Bool.or_eq_true,zba,zde,zde]
theorem aCt{a b c:Pt}(d:dP b a=true)(e:dP c b=true):dP c a=true:=by
 rw[alI]at*;rcases d with d|⟨e1,d⟩<;>rcases e with e|⟨f,e⟩
 ·exact .inl (by omega)
 ·exact .inl (by omega)
 ·exact .inl (by omega)
 ·exact .inr ⟨by omega,rG d e⟩
theorem aGD{a b:Pt}(h:dP a b=false)(c:¬(a.val.n=b.val.n/\a.dot=b.dot)):dP b a=true:=by
 rw[<-Bool.not_eq_true,alI]at h;rw[alI];rcases Int.lt_trichotomy a.val.n b.val.n with q|q|q
 ·exact .inl q
 ·refine .inr ⟨q.symm,?_⟩
  refine zO ?_ λe=>c ⟨q,e⟩;rw[<-Bool.not_eq_true];exactλw=>h (.inr ⟨q,w⟩)
 ·exact absurd (.inl q) h
theorem lC{c:Cl}:gQ c=true↔(c.kind=3/\c.val=Vl.zero)/\(∀p∈c.parts,eG p=true)/\c.parts.Pairwise λa b=>dP b a=true:=by
 unfold gQ;rw[zba,zde,axD (bh:=dP) λd e=>aCt d e]
theorem aBy{v:Vl}{d:Dt}(hv:cE v=true)(hd:dU d=true):eF (ptN v d)=true:=by
 unfold eF;rw[show(ptN v d).val=v from rfl,show(ptN v d).dot=d from rfl,hv,hd];have:gD (ptN v d):=⟨rfl,rfl,rfl,rfl,rfl⟩;simp only[decide_eq_true this];rfl
theorem aB2{n:Int}{d:Dt}(hv:cE (nV n)=true)(hd:dU d=true):eG (ptN (nV n) d)=true:=by
 unfold eG;rw[show(ptN (nV n) d).val=nV n from rfl,show(ptN (nV n) d).dot=d from rfl,hv,hd];have:gD (ptN (nV n) d):=⟨rfl,rfl,rfl,rfl,rfl⟩;simp only[decide_eq_true this];rfl
theorem xI{c:Cl}{v:Vl}{d:Dt}{kn:List Int}(h:jA c=true)(hv:cE v=true)(hd:dU d=true):jA (jB c v d kn)=true:=by
 obtain⟨h0,e,f⟩:=uV.1 h;refine uV.2 ⟨h0,λp hp=>?_,atE (r:=λa b:Pt=>aW b.dot a.dot=true) (λ_ _ _ e f=>rG e f) (f.filter _) (λp hp hf=>?_) λp hp hf=>?_⟩
 ·rcases aiJ.1 hp with rfl|hp
  ·exact aBy hv hd
  ·exact e p ((List.mem_filter.1 hp).1)
 ·have hk:=(List.mem_filter.1 hp).2
  unfold tQ at hk;rw[zba,zde]at hk;exact zO hf hk.1
 ·exact hf
theorem adD{c:Cl}{n:Int}{d:Dt}(h:gQ c=true)(hv:cE (nV n)=true)(hd:dU d=true):gQ (oK c n d)=true:=by
 unfold oK;split
 ·exact h
 ·rename_i hs
  obtain⟨h0,e,f⟩:=lC.1 h;refine lC.2 ⟨h0,λp hp=>?_,atE (r:=λa b:Pt=>dP b a=true) (λ_ _ _ e f=>aCt e f) f (λp hp hf=>aGD hf ?_) λp hp hf=>hf⟩
  ·rcases aiJ.1 hp with rfl|hp
   ·exact aB2 hv hd
   ·exact e p hp
  ·rintro⟨g,i⟩
   apply hs;rw[List.any_eq_true];refine⟨p,hp,?_⟩;unfold tP;rw[decide_eq_true (show p.val.n=n from g),decide_eq_true (show p.dot=d from i)];rfl
theorem amN{c:Cl}{n:Int}{d:Dt}{kn:List Int}(h:gQ c=true):gQ (tW c n d kn)=true:=by
 obtain⟨h0,a,e⟩:=lC.1 h;exact lC.2 ⟨h0,λp hp=>a p ((List.mem_filter.1 hp).1),e.filter _⟩
theorem aeZ{c:Cl}{n:Int}(h:(vL c n).2=0):(vL c n).1.kind=2/\bV (vL c n).1=0/\(vL c n).1.parts=[]:=by
 unfold vL at*;split at h
 ·rename_i q;exact absurd h q
 ·rename_i q;rw[zn q]
  split at h
  ·rename_i d;exact absurd h d
  ·rename_i d;rw[zn d]
   split at h
   ·rename_i a;exact absurd h a
   ·rename_i a;rw[zn a]
    exact⟨rfl,zdn a,rfl⟩
theorem acE{c:Cl}{s:ByteArray}{w:T.Sp}{up:T.Nm}(h:T.rightP c=0)(h0:(T.typeP c s w up).2=0):T.rightP (T.typeP c s w up).1=0:=by
 have hl:c.parts.length+s.size<=2000:=by
  apply Classical.byContradiction;intro q;unfold T.typeP at h0;rw[zn (by simp[h])]at h0;split at h0
  ·simp at h0
  ·rw[zp (.inr (.inl (by omega)))]at h0
   simp at h0
 rcases(T.Is.of h).type s w up hl with⟨_,q⟩|⟨_,_,q⟩
 ·exact absurd h0 q
 ·exact q.right
theorem kL{c:Cl}(h:T.rightP c=0):c.kind=4:=by
 unfold T.rightP at h;split at h
 ·cases h
 ·rename_i q;exact zdn q
theorem cJ{c:Cl}:iR T.rightP c=true↔(c.kind=0/\cE c.val=true/\c.parts=[])\/(c.kind=1/\jA c=true)\/(c.kind=2/\bV c=0)\/(c.kind=3/\gQ c=true)\/(c.kind=4/\T.rightP c=0):=by
 unfold iR;by_cases h0:c.kind=0
 ·rw[zp h0,zba,zde]
  constructor
  ·rintro⟨a,b⟩;exact .inl ⟨h0,a,List.eq_nil_of_length_eq_zero b⟩
  ·rintro(⟨_,a,b⟩|⟨k,_⟩|⟨k,_⟩|⟨k,_⟩|⟨k,_⟩)
   ·exact⟨a,by rw[b];rfl⟩
   all_goals omega
 rw[zn h0];by_cases d:c.kind=1
 ·rw[zp d]
  constructor
  ·exactλa=> .inr (.inl ⟨d,a⟩)
  ·rintro(⟨k,_⟩|⟨_,a⟩|⟨k,_⟩|⟨k,_⟩|⟨k,_⟩)
   ·omega
   ·exact a
   all_goals omega
 rw[zn d];by_cases e:c.kind=2
 ·rw[zp e,zde]
  constructor
  ·exactλa=> .inr (.inr (.inl ⟨e,a⟩))
  ·rintro(⟨k,_⟩|⟨k,_⟩|⟨_,a⟩|⟨k,_⟩|⟨k,_⟩)
   ·omega
   ·omega
   ·exact a
   all_goals omega
 rw[zn e];by_cases f:c.kind=3
 ·rw[zp f]
  constructor
  ·exactλa=> .inr (.inr (.inr (.inl ⟨f,a⟩)))
  ·rintro(⟨k,_⟩|⟨k,_⟩|⟨k,_⟩|⟨_,a⟩|⟨k,_⟩)
   ·omega
   ·omega
   ·omega
   ·exact a
   ·omega
 rw[zn f];by_cases h4:c.kind=4
 ·rw[zp h4,zde]
  constructor
  ·exactλa=> .inr (.inr (.inr (.inr ⟨h4,a⟩)))
  ·rintro(⟨k,_⟩|⟨k,_⟩|⟨k,_⟩|⟨k,_⟩|⟨_,a⟩)
   ·omega
   ·omega
   ·omega
   ·omega
   ·exact a
 ·rw[zn h4]
  simp[h0,d,e,f,h4]
theorem arC{v:Vl}(h:cE v=true)(hk:v.kind=1):cE (nV v.n)=true:=by
 unfold cE at*;rw[zn (by omega),zp hk]at h;rw[zn (by simp[nV]),zp (show(nV v.n).kind=1 from rfl)];simp only[zba,zde]at*;exact⟨⟨rfl,h.1.2⟩,h.2⟩
theorem rK{w:Wr}(h:qK w=true):dU w.dot=true:=by
 unfold qK T.withinB at h;unfold dU Wr.dot;simp only[zba,zde]at*;omega
theorem aHB{w:Wr}{c:Cl}{o:Ot}{p:Co}(hw:qK w=true)(hc:iR T.rightP c=true)(hf:aiZ o.kind c.kind=true)(hv:tF p o=0)(h0:(fE w c o).2=0):iR T.rightP (fE w c o).1=true/\(fE w c o).1.kind=c.kind:=by
 have hd:=rK hw;have d:cE o.val=true:=by
  unfold tF at hv;split at hv
  ·cases hv
  ·rename_i q
   cases e:cE o.val with
   |true=>rfl
   |false=>exact absurd (.inr e) q
 have hn:o.kind≠2->o.kind≠6->o.kind≠7->cE (nV o.val.n)=true:=λa b e=>by
  apply arC d
  unfold tF at hv
  split at hv
  ·cases hv
  ·split at hv
   ·rename_i q;exact absurd q.1 a
   split at hv
   ·cases hv
   split at hv
   ·cases hv
   ·rename_i q;exact Classical.byContradiction λz=>q ⟨a,b,z⟩
 unfold fE at*;unfold aiZ at hf;by_cases k2:o.kind=2
 ·rw[zp k2]at hf h0⊢
  rw[zde]at hf;by_cases c0:c.kind=0
  ·rw[zp c0]
   exact⟨cJ.2 (.inl ⟨rfl,d,rfl⟩),c0.symm⟩
  ·rw[zn c0]
   have c1:c.kind=1:=hf.resolve_left c0;rcases cJ.1 hc with q|q|q|q|q
   ·exact absurd q.1 c0
   ·exact⟨cJ.2 (.inr (.inl ⟨c1,xI q.2 d hd⟩)),rfl⟩
   all_goals omega
 rw[zn k2]at hf h0⊢;by_cases k:o.kind=3
 ·rw[zp k]at hf h0⊢
  rw[zde]at hf;obtain⟨i,m,r⟩:=aeZ h0;exact⟨cJ.2 (.inr (.inr (.inl ⟨i,m⟩))),by rw[i,hf]⟩
 rw[zn k]at hf h0⊢;by_cases g:o.kind=4
 ·rw[zp (.inl g),zde]at hf
  rw[zp g]at h0⊢;rcases cJ.1 hc with q|q|q|q|q
  ·omega
  ·omega
  ·omega
  ·have hk:(oK c o.val.n w.dot).kind=c.kind:=by unfold oK;split<;>rfl
   exact⟨cJ.2 (.inr (.inr (.inr (.inl ⟨by rw[hk,hf],adD q.2 (hn k2 (by omega) (by omega)) hd⟩)))),hk⟩
  ·omega
 rw[zn g]at h0⊢;by_cases h:o.kind=5
 ·rw[zp (.inr h),zde]at hf
  rw[zp h]at h0⊢;rcases cJ.1 hc with q|q|q|q|q
  ·omega
  ·omega
  ·omega
  ·exact⟨cJ.2 (.inr (.inr (.inr (.inl ⟨hf,amN q.2⟩)))),rfl⟩
  ·omega
 rw[zn (by omega)]at hf;rw[zn h]at h0⊢;have f:(o.kind=6\/o.kind=7)/\c.kind=4:=by
  split at hf
  ·rename_i q;exact⟨q,by simpa using hf⟩
  ·cases hf
 have j:T.rightP c=0:=by
  rcases cJ.1 hc with q|q|q|q|q
  ·omega
  ·omega
  ·omega
  ·omega
  ·exact q.2
 by_cases l:o.kind=6
 ·rw[zp l]at h0⊢
  have:=acE j h0;exact⟨cJ.2 (.inr (.inr (.inr (.inr ⟨kL this,this⟩)))),by rw[kL this,f.2]⟩
 ·rw[zn l]
  have:=T.right_erase ⟨o.after,o.at_⟩ j;exact⟨cJ.2 (.inr (.inr (.inr (.inr ⟨kL this,this⟩)))),rfl⟩
theorem aEP :T.rightP ⟨4,Vl.zero,[]⟩=0:=by kernel_rfl
theorem aCN{w:Wr}{c:Co}{v:Vl}(hw:qK w=true)(hk:0<=c.kind/\c.kind<=4)(hv:vB c v=0)(h0:(lJ w c.kind v).2=0):iR T.rightP (lJ w c.kind v).1=true/\(lJ w c.kind v).1.kind=c.kind:=by
 have hd:=rK hw;unfold vB at hv;split at hv
 ·cases hv
 rename_i m;have a:cE v=true:=by simpa using m
 split at hv
 ·cases hv
 rename_i q;split at hv
 ·cases hv
 rename_i o;unfold lJ at*;by_cases c0:c.kind=0
 ·rw[zp c0]
  exact⟨cJ.2 (.inl ⟨rfl,a,rfl⟩),c0.symm⟩
 rw[zn c0]at h0⊢;by_cases c2:c.kind=2
 ·rw[zp c2]at h0⊢
  obtain⟨i,l,p⟩:=aeZ h0;exact⟨cJ.2 (.inr (.inr (.inl ⟨i,l⟩))),by rw[i,c2]⟩
 rw[zn c2]at h0⊢;by_cases f:c.kind=4
 ·rw[zp f]at h0⊢
  have:=acE aEP h0;exact⟨cJ.2 (.inr (.inr (.inr (.inr ⟨kL this,this⟩)))),by rw[kL this,f]⟩
 rw[zn f]at h0⊢;have g:c.kind=1\/c.kind=3:=by omega
 have k:c.kind=1->jA ⟨c.kind,Vl.zero,[]⟩=true:=λe=>uV.2 ⟨⟨e,rfl⟩,by simp,List.Pairwise.nil⟩;have j:c.kind=3->gQ ⟨c.kind,Vl.zero,[]⟩=true:=λe=>lC.2 ⟨⟨e,rfl⟩,by simp,List.Pairwise.nil⟩;by_cases v0:v.kind=0
 ·rw[zp v0]
  rcases g with e|e
  ·exact⟨cJ.2 (.inr (.inl ⟨e,k e⟩)),rfl⟩
  ·exact⟨cJ.2 (.inr (.inr (.inr (.inl ⟨e,j e⟩)))),rfl⟩
 rw[zn v0]at h0⊢;by_cases d:c.kind=3
 ·rw[zp d]
  have h:v.kind=1:=by
   have:v.kind=bS c:=Classical.byContradiction λz=>o ⟨v0,z⟩;rw[this];unfold bS;rw[zn (by omega),zp (.inr d)]
  have hk:(oK ⟨c.kind,Vl.zero,[]⟩ v.n w.dot).kind=c.kind:=by unfold oK;split<;>rfl
  exact⟨cJ.2 (.inr (.inr (.inr (.inl ⟨by rw[hk,d],adD (j d) (arC a h) hd⟩)))),hk⟩
 ·rw[zn d]
  have c1:c.kind=1:=by omega
  exact⟨cJ.2 (.inr (.inl ⟨c1,xI (k c1) a hd⟩)),rfl⟩
end Go.Proofs.YtnogfoojjaainaaGreatDoor
