import Derived.Test.YtfablfldonhkiaaGreatDoorClAn
import Derived.Test.YtfablfldonhkiaaGreatDoorClAe
import Derived.Test.YtfablfldonhkiaaGreatDoorClAk
import Derived.Test.YtfablfldonhkiaaGreatDoorClAl
import Derived.Test.YtfablfldonhkiaaGreatDoorAbsK
import Derived.Test.YtfablfldonhkiaaGreatDoorAbsG
set_option linter.unusedSimpArgs false
set_option linter.unusedVariables false
namespace Go.Proofs.YtfablfldonhkiaaGreatDoor
open Go Go.Abs
section
set_option maxRecDepth 10000
set_option maxHeartbeats 4000000
def asH (t:Tb) (G:R2->Bool) (l:Ln) (c:Int):Bool:=t.foreign.any λf=>decide (f.col=c)&&eF G l f
theorem avM {t:Tb} {G:R2->Bool} {l:Ln} {c:Int}:asH t G l c=true↔∃f∈t.foreign,f.col=c/\eF G l f=true:=by
 unfold asH;rw [List.any_eq_true];simp only [zba,zde]
theorem acY (t:Tb) (G:R2->Bool) (who:Dt) (l:Ln):(jS t G who l).key=l.key:=by unfold jS;split<;>rfl
theorem oF {s:Sc} {b:Bs} {G:R2->Bool} {who:Dt} {k:Nat} (hk:k<b.length):(kZ s b G who)[k]!.lines=pN s b G who k:=by
 have h:k<(kZ s b G who).length:=by simpa [kZ] using hk
 rw [getElem!_pos _ k h];simp [kZ]
theorem kL (s:Sc) (b:Bs) (G:R2->Bool) (who:Dt):(kZ s b G who).length=b.length:=by simp [kZ]
theorem qI {s:Sc} {b:Bs} {G:R2->Bool} {who:Dt} {k:Nat} {x:Ln}:x∈pN s b G who k↔∃l∈b[k]!.lines,G ((k:Int),l.key)=false/\x=jS s[k]! G who l:=by
 unfold pN;simp only [List.mem_map,List.mem_filter,Bool.not_eq_true'];exact ⟨λ⟨l,⟨a,c⟩,e⟩=>⟨l,a,c,e.symm⟩,λ⟨l,a,c,e⟩=>⟨l,⟨a,c⟩,e.symm⟩⟩
section
variable {s:Sc} {b:Bs} {G:R2->Bool} {who:Dt}
end
end
section
attribute [local irreducible] Ev PWp
set_option maxRecDepth 10000
set_option maxHeartbeats 4000000
theorem agS (a:Ln) (d:Dt):(cT a d).by_.length<=a.by_.length+1:=by
 unfold cT;split
 ·omega
 ·show (cG a.by_ (gC a.by_ d) [d]).length<=_
  rw [rN (aqL _ _)];exact Nat.le_refl _
theorem aeL {l:List Dt}:yY l=true↔(∀x∈l,fM x=true)/\ayY l:=by
 unfold yY;rw [qW];constructor
 ·intro h
  refine ⟨λx hx=> ?_,aHz λk hk=> ?_⟩
  ·obtain ⟨k,hk,rfl⟩:=zgo hx
   have:=h k hk;unfold afQ at this;rw [getElem!_pos l k hk,zba] at this;exact this.1
  ·have:=h k hk
   unfold afQ at this;rw [zba] at this;exact this.2
 ·rintro ⟨a,c⟩ k hk
  unfold afQ;rw [getElem!_pos l k hk,a _ (zgm hk),Bool.true_and];rcases Nat.eq_zero_or_pos k with rfl|h0
  ·rfl
  ·rw [getElem!_pos l (k-1) (by omega),List.pairwise_iff_getElem.1 c (k-1) k (by omega) hk (by omega)]
   simp
theorem afB {a:Ln} {d:Dt} (h:yY a.by_=true) (hd:fM d=true):yY (cT a d).by_=true:=by
 obtain ⟨c,e⟩:=aeL.1 h;rw [aoG];refine aeL.2 ⟨λx hx=> ?_,aAg e d⟩;rcases (alN _ _ _).1 hx with rfl|q
 ·exact hd
 ·exact c x q
theorem azI {tx:Cl->Int}:jM tx Cl.zero=true:=by
 unfold jM;rw [zp (show Cl.zero.kind=0 from rfl)]
 decide
theorem aFl {tx:Cl->Int} {s:Sc} {t:Tb} (d:∀f∈t.foreign,FrOK s t f) {G:R2->Bool} {who:Dt} {l:Ln} (h:LineOK tx t l) (hd:fM who=true):LineOK tx t (jS t G who l):=by
 unfold jS;split
 ·obtain ⟨k1,k2,ln,i,ce,m,ds⟩:=h
  have a:∀j (hj:j<l.cells_.length),∃p:Prop,∃_:Decidable p,(eX (eF G l) t.foreign l.cells_)[j]'(by rw [dF];exact hj)=(if p then Cl.zero else l.cells_[j])/\(p->1<=j/\t.cols[j]!.kind=0):=λj hj=>⟨_,_,oW hj,λhp=>by
   obtain ⟨f,hf,hc,_⟩:=avM.1 (show asH t G l j=true from hp)
   have q:=d f hf
   have n:=q.c1
   have k:=q.kind
   refine ⟨by omega, ?_⟩
   rwa [show f.col.toNat=j by omega] at k⟩
  refine ⟨k1,k2,by rw [<-ln];exact dF ..,λj hj=> ?_,λc hc=> ?_, ?_,afB ds hd⟩
  ·have hj:j<(eX (eF G l) t.foreign l.cells_).length:=hj
   rw [dF] at hj;obtain ⟨p,_,e,hp⟩:=a j hj;show (eX (eF G l) t.foreign l.cells_)[j].kind=_;rw [e];split
   ·rename_i g;rw [(hp g).2];rfl
   ·exact i j hj
  ·obtain ⟨j,hj,rfl⟩:=zgo hc
   have hj:j<(eX (eF G l) t.foreign l.cells_).length:=hj;rw [dF] at hj;obtain ⟨p,_,e,hp⟩:=a j hj;show jM tx (eX (eF G l) t.foreign l.cells_)[j]=true;rw [e];split
   ·exact azI
   ·exact ce _ (zgm hj)
  ·show (eX (eF G l) t.foreign l.cells_)[0]!.val=_
   rw [<-m];by_cases hj:0<l.cells_.length
   ·obtain ⟨p,_,e,hp⟩:=a 0 hj
    rw [getElem!_pos _ 0 (by rw [dF];exact hj),getElem!_pos l.cells_ 0 hj,e,zn λq=>absurd (hp q).1 (by omega)]
   ·have:l.cells_=[]:=List.eq_nil_of_length_eq_zero (by omega)
    rw [this];rfl
 ·exact h
theorem nM {s:Sc} {b:Bs} {G:R2->Bool} {who:Dt} {k:Nat} (h:KSort b[k]!.lines):KSort (pN s b G who k):=by
 unfold KSort pN;rw [List.map_map,show ((λl:Ln=>l.key)∘jS s[k]! G who)=λl=>l.key from funext λl=>acY _ _ _ _];unfold KSort at h;exact h.sublist (List.Sublist.map _ List.filter_sublist)
theorem aEv {tx:Cl->Int} {s:Sc} {b:Bs} (h:aV tx s b=true) {G:R2->Bool} {who:Dt} (hd:fM who=true):aV tx s (kZ s b G who)=true:=by
 obtain ⟨⟨d,e⟩,g⟩:=aI.1 h;refine aI.2 ⟨⟨d,by rw [kL];exact e⟩,λk hk=> ?_⟩;rw [kL] at hk;rw [oF hk];have a:=g k hk;rw [getElem!_pos b k hk] at a;obtain ⟨i,j,m⟩:=fU.1 a;have c:k<s.length:=by omega
 refine fU.2 ⟨?_,λx hx=> ?_,nM (by rw [getElem!_pos b k hk];exact m)⟩
 ·unfold pN
  rw [zql,getElem!_pos b k hk];exact Nat.le_trans (List.length_filter_le ..) i
 ·obtain ⟨l,hl,_,rfl⟩:=qI.1 hx
  rw [getElem!_pos b k hk] at hl;refine aaV.2 (aFl (s:=s) (λf hf=> ?_) (aaV.1 (j l hl)) hd);rw [getElem!_pos s k c] at hf⊢;exact axQ d c hf
end
section
set_option maxRecDepth 10000
set_option maxHeartbeats 4000000
structure Ot where
 kind:Int
 table:Int
 key:Int
 col:Int
 row:List Vl
 val:Vl
 after:Dt
 at_:Int
def Ot.cells (o:Ot):List PV:=[(vi (o.kind)),(vi (o.table)),(vi (o.key)),(vi (o.col)), .seq (o.row.map Vl.cells),(vi (o.val.kind)),(vi (o.val.n)),(vs (o.val.s)),(vi (o.after.dev)),(vi (o.after.seq)),(vi (o.at_))]
structure Wr where
 who:T.Sp
 knew:List Int
def Wr.dot (w:Wr):Dt:=⟨w.who.dev,w.who.seq⟩
def Wr.cells (w:Wr):List PV:=[(vi (w.who.time)),(vi (w.who.dev)),(vi (w.who.seq)), .seq (w.knew.map I1)]
def tO (o:Ot):Bool:=decide (o.col=0/\o.val=Vl.zero/\o.after=Dt.zero/\o.at_=0)
def aAo (n:Int):Bool:=decide (0<=n)&&decide (n<=1073741823)
def avJ (t:Tb) (o:Ot):Int:=if o.key≠0\/tO o=false then 1 else if fA t o.row≠0 then fA t o.row else if o.row.length=0\/aAo o.row[0]!.n=false then 1 else 0
def sP (c:Co) (o:Ot):Int:=if (o.kind=7/\o.val≠Vl.zero)\/cF o.val=false then 1 else if o.kind=7 then 0 else if o.kind=2/\o.val.kind=0 then (if c.null=true then 0 else 7) else if (o.kind=2/\o.val.kind≠c.type_)\/(o.kind=6/\o.val.kind≠2) then 6 else if o.kind≠2/\o.kind≠6/\o.val.kind≠1 then 6 else 0
def akG (o:Ot):Bool:=if o.after=Dt.zero/\o.at_=0 then decide (o.kind≠7) else decide (o.kind=6\/o.kind=7)&&T.mayN ⟨o.after,o.at_⟩
def ahX (k c:Int):Bool:=if k=2 then decide (c=0\/c=1) else if k=3 then decide (c=2) else if k=4\/k=5 then decide (c=3) else if k=6\/k=7 then decide (c=4) else false
def adC (t:Tb) (o:Ot):Int:=if o.col<0\/o.col>=t.cols.length then 4 else if o.col=0 then 1 else if ahX o.kind t.cols[o.col.toNat]!.kind=false then 6 else if sP t.cols[o.col.toNat]! o≠0 then sP t.cols[o.col.toNat]! o else if akG o=false then 1 else 0
def eO (s:Sc) (o:Ot):Int:=if o.kind<1\/o.kind>8 then 1 else if o.table<0\/o.table>=s.length then 4 else if o.kind=1 then avJ s[o.table.toNat]! o else if o.row.length>0\/aAo o.key=false then 1 else if o.kind≠8 then adC s[o.table.toNat]! o else if tO o=false then 1 else 0
def okV (n:Int):Bool:=decide (0<=n)&&decide (n<=1048576)
def aCG (v:List Int):Bool:=decide (v.length<=64)&&v.all okV
def ofV (v:List Int) (d:Int):Int:=if d<1\/d>v.length then 0 else v[(d-1).toNat]!
def aqN (v:List Int) (d:Dt):Bool:=decide (d.seq>=1)&&decide (d.seq<=ofV v d.dev)
def ptN (v:Vl) (d:Dt):Pt:=⟨v,d,0,0,Dt.zero,0,false⟩
def sX (d:Dt) (kn:List Int) (p:Pt):Bool:=decide (p.dot≠d)&& !aqN kn p.dot
def afJ {α:Type} (f:α->Bool) (l:List α):Nat:=(l.findIdx? f).getD l.length
def iQ (c:Cl) (v:Vl) (d:Dt) (kn:List Int):Cl:=⟨c.kind,c.val,dS (c.parts.filter (sX d kn)) (afJ (λp=>bE p.dot d) (c.parts.filter (sX d kn))) [ptN v d]⟩
def nV (n:Int):Vl:=⟨1,n,e0⟩
def sW (n:Int) (d:Dt) (p:Pt):Bool:=decide (p.val.n=n)&&decide (p.dot=d)
def oL (c:Cl) (n:Int) (d:Dt):Cl:=if c.parts.any (sW n d)=true then c else ⟨c.kind,c.val,dS c.parts (afJ (λp=>eI p (ptN (nV n) d)) c.parts) [ptN (nV n) d]⟩
def tJ (n:Int) (d:Dt) (kn:List Int) (p:Pt):Bool:=decide (p.val.n≠n)||(decide (p.dot≠d)&& !aqN kn p.dot)
def tF (c:Cl) (n:Int) (d:Dt) (kn:List Int):Cl:=⟨c.kind,c.val,c.parts.filter (tJ n d kn)⟩
def pV (n:Int):Cl:=⟨2,nV n,[]⟩
def vC (c:Cl) (n:Int):Cl×Int:=if bU c≠0 then (Cl.zero,bU c) else if bU (pV n)≠0 then (Cl.zero,bU (pV n)) else if bU (pV (c.val.n+n))≠0 then (Cl.zero,bU (pV (c.val.n+n))) else (pV (c.val.n+n),0)
def lF (w:Wr) (kind:Int) (v:Vl):Cl×Int:=if kind=0 then (⟨0,v,[]⟩,0) else if kind=2 then vC (pV 0) v.n else if kind=4 then T.typeP ⟨4,Vl.zero,[]⟩ v.s w.who T.Nm.zero else if v.kind=0 then (⟨kind,Vl.zero,[]⟩,0) else if kind=3 then (oL ⟨kind,Vl.zero,[]⟩ v.n w.dot,0) else (iQ ⟨kind,Vl.zero,[]⟩ v w.dot w.knew,0)
def eT (w:Wr) (c:Cl) (o:Ot):Cl×Int:=if o.kind=2 then (if c.kind=0 then (⟨0,o.val,[]⟩,0) else (iQ c o.val w.dot w.knew,0)) else if o.kind=3 then vC c o.val.n else if o.kind=4 then (oL c o.val.n w.dot,0) else if o.kind=5 then (tF c o.val.n w.dot w.knew,0) else if o.kind=6 then T.typeP c o.val.s w.who ⟨o.after,o.at_⟩ else (T.eraseP c ⟨o.after,o.at_⟩,0)
def oZ (w:Wr) (t:Tb) (r:List Vl) (i:Nat):Cl×Int:=lF w t.cols[i]!.kind r[i]!
def kI (w:Wr) (t:Tb) (r:List Vl):Int:=eJ (λi=>(oZ w t r i).2) (List.range r.length)
def eU (w:Wr) (t:Tb) (r:List Vl):Ln:=⟨r[0]!.n,(List.range r.length).map λi=>(oZ w t r i).1,[w.dot]⟩
def oX (w:Wr) (o:Ot) (l:Ln):Ln:=cT ⟨l.key,l.cells_.set o.col.toNat (eT w l.cells_[o.col.toNat]! o).1,l.by_⟩ w.dot
def aE0 (w:Wr) (s:Sc) (b:Bs) (o:Ot):Bs×Int:=if (aY (aF b o.table) o.row[0]!.n).isSome=true then ([],8) else if (aF b o.table).length>=2000 then ([],2) else if kI w s[o.table.toNat]! o.row≠0 then ([],kI w s[o.table.toNat]! o.row) else (bN b o.table (eU w s[o.table.toNat]! o.row),0)
def anN (w:Wr) (b:Bs) (o:Ot):Bs×Int:=match aY (aF b o.table) o.key with
 |none=>([],4)
 |some l=>if (eT w l.cells_[o.col.toNat]! o).2≠0 then ([],(eT w l.cells_[o.col.toNat]! o).2) else (bN b o.table (oX w o l),0)
def bD (w:Wr) (s:Sc) (b:Bs) (o:Ot):Bs×Int:=if eO s o≠0 then ([],eO s o) else if o.kind=1 then aE0 w s b o else if o.kind=8 then tY true s b (o.table,o.key) w.dot (lI s b (o.table,o.key)) else anN w b o
def pW (w:Wr):Bool:=((T.withinB w.who.time 1 1125899906842624&&T.withinB w.who.dev 1 64)&&T.withinB w.who.seq 1 1048576)&&aCG w.knew
noncomputable def rightW (w:Wr) (s:Sc) (b:Bs):Bool:=mayC s b&&pW w
noncomputable def doP (w:Wr) (s:Sc) (b:Bs) (o:Ot):Bs×Int:=if rightW w s b=true then bD w s b o else ([],1)
def aR (w:Wr) (s:Sc):Bs->List Ot->Bs×Int
 |b,[]=>(b,0)
 |b,o::r=>if (bD w s b o).2≠0 then ([],(bD w s b o).2) else aR w s (bD w s b o).1 r
noncomputable def fP (w:Wr) (s:Sc) (b:Bs) (l:List Ot):Bs×Int:=if rightW w s b=false then ([],1) else if l.length>2000 then ([],2) else if (aR w s b l).2≠0 then ([],(aR w s b l).2) else if whyC s (aR w s b l).1≠0 then ([],whyC s (aR w s b l).1) else ((aR w s b l).1,0)
end
section
attribute [local irreducible] Ev PWp
set_option maxRecDepth 10000
set_option maxHeartbeats 4000000
theorem dX (n a b:Int):PF Tryz.prog 109 [(vi (n)),(vi (a)),(vi (b))] (vb (T.withinB n a b)):=by
 refine pF Tryz.func109 rfl (λst=> ?_)
 (repeat' first|apply wZ;rfl|show Cn _;constructor|exact rfl)
theorem nY (n:Int):PF Tryz.prog 112 [(vi (n))] (vb (aAo n)):=by
 have h:=dX n 0 1073741823;refine pF Tryz.func112 rfl (λst=> ?_)
 (repeat' first|apply wZ;rfl|show Cn _;constructor|exact rfl|(apply h)|apply wY;rfl)
theorem aJR (d:Dt):(decide (d.dev=0)&&decide (d.seq=0))=decide (d=Dt.zero):=by
 rw [Bool.eq_iff_iff];simp [Dt.ext_iff,Dt.zero]
theorem aH4 (v:Vl):(decide (v.kind=0)&&(decide (v.n=0)&&decide (v.s=e0)))=decide (v=Vl.zero):=by
 rw [Bool.eq_iff_iff];simp [Vl.ext_iff,Vl.zero]
theorem acS (o:Ot):PF Tryz.prog 114 [.agg o.cells] (vb (tO o)):=by
 have e:tO o=(((decide (o.col=0)&&decide (o.val=Vl.zero))&&decide (o.after=Dt.zero))&&decide (o.at_=0)):=by unfold tO;rw [Bool.eq_iff_iff];simp [and_assoc]
 rw [e,<-aJR,<-aH4];refine pF Tryz.func114 rfl (λst=> ?_)
 (repeat' first|apply wZ;rfl|show Cn _;constructor|exact rfl)
theorem alA (t:Tb) (o:Ot) (e:PF Tryz.prog 82 [.seq (t.cols.map Co.cells), .seq (o.row.map Vl.cells)] (vi (fA t o.row))):PF Tryz.prog 111 [.agg t.cells, .agg o.cells] (vi (avJ t o)):=by
 have hb:=acS o;unfold avJ;generalize fA t o.row=R at*;generalize tO o=B at*;by_cases h0:o.key≠0\/B=false
 ·rw [zp h0]
  refine pF Tryz.func111 rfl (λst=> ?_)
  (repeat' first|exfalso;revert h0;simp_all;done|apply wZ;rfl|show Cn _;constructor|exact rfl|(apply hb)|apply wY;rfl|(intro h;simp at h))
 rw [zn h0];simp only [not_or,Decidable.not_not,Bool.not_eq_false] at h0;obtain ⟨h0,rfl⟩:=h0;by_cases c:R≠0
 ·rw [zp c]
  refine pF Tryz.func111 rfl (λst=> ?_)
  (repeat' first|apply wZ;rfl|show Cn _;constructor|exact rfl|((first|apply hb|apply e))|apply wY;rfl|omega|intro h;simp at h;omega|(intro h;simp at h)|intro h)
 rw [zn c];have c:=zdn c;by_cases d:o.row.length=0
 ·rw [zp (.inl d)]
  refine pF Tryz.func111 rfl (λst=> ?_)
  (repeat' first|apply wZ;rfl|show Cn _;constructor|exact rfl|((first|apply hb|apply e|apply (nY 0)))|apply dM pk (j:=0) (row:=Vl.zero.cells);(iterate 6 rfl);rotate_left;rfl;(intro hw;exact absurd hw (by simp [gw,d]));(intro hw;exact absurd hw (by simp [gw,d]));(intro hw;exact absurd hw (by simp [gw,d]));rfl|apply wY;rfl|omega|exfalso;simp_all;done|intro h;simp at h;omega|(intro h;simp at h)|intro h)
 have a:0<o.row.length:=by omega
 have hk:=nY o.row[0].n;rw [getElem!_pos o.row 0 a];generalize aAo o.row[0].n=K at*;cases K with
 |false=>
  rw [zp (.inr rfl)];refine pF Tryz.func111 rfl (λst=> ?_)
  (repeat' first|apply wZ;rfl|show Cn _;constructor|exact rfl|((first|apply hb|apply e|apply hk))|apply wY;rfl|apply wI;rfl|apply gE;omega|omega|intro h;simp at h;done|intro h;simp at h;omega|(intro h;simp at h)|intro h)
 |true=>
  rw [zn (by rintro (q|q);omega;cases q)];refine pF Tryz.func111 rfl (λst=> ?_)
  (repeat' first|apply wZ;rfl|show Cn _;constructor|exact rfl|((first|apply hb|apply e|apply hk))|apply wY;rfl|apply wI;rfl|apply gE;omega|omega|exfalso;simp_all;done|intro h;simp at h;omega|(intro h;simp at h)|intro h)
theorem aBQ (c:Co) (o:Ot):PF Tryz.prog 173 [.agg c.cells, .agg o.cells] (vi (sP c o)):=by
 have hv:=jQ o.val;have hz:=aH4 o.val;unfold sP;generalize cF o.val=V at*;generalize g:decide (o.val=Vl.zero)=Z at*;have a:o.val≠Vl.zero↔Z=false:=by rw [<-g];simp
 by_cases h0:(o.kind=7/\o.val≠Vl.zero)\/V=false
 ·rw [zp h0]
  rw [a] at h0;refine pF Tryz.func173 rfl (λst=> ?_)
  (repeat' first|apply wZ;rfl|show Cn _;constructor|exact rfl|(apply hv)|apply wY;rfl|omega|(exfalso;grind)|(intro h;simp at h)|intro h)
 rw [zn h0];rw [a] at h0;by_cases f:o.kind=7
 ·rw [zp f]
  refine pF Tryz.func173 rfl (λst=> ?_)
  (repeat' first|apply wZ;rfl|show Cn _;constructor|exact rfl|(apply hv)|apply wY;rfl|omega|(exfalso;grind)|(intro h;simp at h)|intro h)
 rw [zn f];by_cases d:o.kind=2/\o.val.kind=0
 ·rw [zp d]
  obtain ⟨d,e⟩:=d;cases hn:c.null
  ·rw [zn (by simp)]
   refine pF Tryz.func173 rfl (λst=> ?_)
   (repeat' first|apply wZ;rfl|show Cn _;constructor|exact rfl|(apply hv)|apply wY;rfl|omega|(exfalso;grind)|intro h;simp at h;omega|(intro h;simp at h)|intro h)
  ·rw [zp rfl]
   refine pF Tryz.func173 rfl (λst=> ?_)
   (repeat' first|apply wZ;rfl|show Cn _;constructor|exact rfl|(apply hv)|apply wY;rfl|omega|(exfalso;grind)|intro h;simp at h;omega|(intro h;simp at h)|intro h)
 rw [zn d];by_cases e:(o.kind=2/\o.val.kind≠c.type_)\/(o.kind=6/\o.val.kind≠2)
 ·rw [zp e]
  refine pF Tryz.func173 rfl (λst=> ?_)
  (repeat' first|apply wZ;rfl|show Cn _;constructor|exact rfl|(apply hv)|apply wY;rfl|omega|(exfalso;grind)|intro h;simp at h;omega|(intro h;simp at h)|intro h)
 rw [zn e];by_cases h4:o.kind≠2/\o.kind≠6/\o.val.kind≠1
 ·rw [zp h4]
  refine pF Tryz.func173 rfl (λst=> ?_)
  (repeat' first|apply wZ;rfl|show Cn _;constructor|exact rfl|(apply hv)|apply wY;rfl|omega|(exfalso;grind)|intro h;simp at h;omega|(intro h;simp at h)|intro h)
 rw [zn h4];refine pF Tryz.func173 rfl (λst=> ?_)
 (repeat' first|apply wZ;rfl|show Cn _;constructor|exact rfl|(apply hv)|apply wY;rfl|omega|(exfalso;grind)|intro h;simp at h;omega|(intro h;simp at h)|intro h)
theorem asP (o:Ot):PF Tryz.prog 174 [.agg o.cells] (vb (akG o)):=by
 have a:=dX o.after.dev 1 64;have c:=dX o.after.seq 1 1048576;have d:=dX o.at_ 0 1999;unfold akG T.mayN;have e:(o.after=Dt.zero/\o.at_=0)↔((o.after.dev=0/\o.after.seq=0)/\o.at_=0):=by rw [Dt.ext_iff];rfl
 by_cases h:o.after=Dt.zero/\o.at_=0
 ·rw [zp h]
  rw [e] at h;obtain ⟨⟨f,g⟩,i⟩:=h;refine pF Tryz.func174 rfl (λst=> ?_)
  (repeat' first|apply wZ;rfl|show Cn _;constructor|exact rfl|show (_:PV)=_;(simp;done);done|intro h;simp at h;omega|(intro h;simp at h))
 ·rw [zn h]
  rw [e] at h;generalize T.withinB o.after.dev 1 64=A at*;generalize T.withinB o.after.seq 1 1048576=B at*;generalize T.withinB o.at_ 0 1999=C at*;refine pF Tryz.func174 rfl (λst=> ?_)
  (repeat' first|apply wZ;rfl|show Cn _;constructor|exact rfl|((first|apply a|apply c|apply d))|show (_:PV)=_;(by_cases j:o.kind=6<;>by_cases k:o.kind=7<;>simp_all;done);done|apply wY;rfl|intro h;simp at h;omega|(intro h;simp at h))
def aEG :List (Value×PV):=[(.int .i64 2, .seq [I1 0,I1 1]),(.int .i64 3, .seq [I1 2]),(.int .i64 4, .seq [I1 3]),(.int .i64 5, .seq [I1 3]),(.int .i64 6, .seq [I1 4]),(.int .i64 7, .seq [I1 4])]
theorem mR :PF Tryz.prog 172 [] (.fmap aEG):=by
 refine pF Tryz.func172 rfl (λst=> ?_)
 focus ((repeat' first|apply jL 0;rfl;exact aA _ _ _|((exact Cn.any ⟨_,_,st,rfl,zwr _,StSub.via id a (λj h=>by repeat (first|refine Eq.trans (aB h) ?_|exact rfl)),rfl,rfl⟩))|apply wZ;rfl|show Cn _;constructor|((refine pE rfl (λid a=> ?_)))|apply rV aS;exact .inl rfl;(iterate 7 rfl);exact aA _ _ _;rfl))
def abT (k:Int):List Int:=if k=2 then [0,1] else if k=3 then [2] else if k=4\/k=5 then [3] else if k=6\/k=7 then [4] else []
theorem azH (k:Int):(abT k).length<=2:=by
 unfold abT
 (repeat' split)<;>simp
theorem aEm (k c:Int):((abT k).any λy=>decide (c=y))=ahX k c:=by
 unfold abT ahX
 repeat' split
 all_goals first|rfl|(rw [Bool.eq_iff_iff];simp)
theorem anZ {k:Int} (a:2<=k) (c:k<=7):iB tt 229 aEG (.int .i64 k) false=some (.seq ((abT k).map I1)):=by
 have:k=2\/k=3\/k=4\/k=5\/k=6\/k=7:=by omega
 rcases this with rfl|rfl|rfl|rfl|rfl|rfl<;>rfl
theorem aeT (l:List Int) (x:Int) (hl:l.length<4611686018427387904):PF Tryz.prog 171 [.seq (l.map I1),(vi (x))] (vb (l.any λy=>decide (x=y))):=by
 have hx:PF Tryz.prog 237 [.seq (l.map I1),(vi (x))] (vi (cY (λy=>decide (x=y)) l)):=by
  refine pF Tryz.func237 rfl (λst=> ?_)
  (repeat' first|apply wZ;rfl|show Cn _;constructor)
  refine aC (X:={y:Nat//y<=l.length/\∀j (h:j<y) (d:j<l.length),decide (x=l[j])=false}) (λi=>(((((St.nil 19 st).pv 0 (.seq (l.map I1))).pv 1 ((vi (x)))).pv 7 ((vi ((((l.map I1)).length:Nat))))).pv 8 ((vi ((i.1:Nat)))))) (λi=>l.length-i.1) ⟨0,by omega,by omega⟩ ?_ (λi=> ?_)
  ·(repeat' first|show Cn _;constructor|exact rfl)
  obtain ⟨i,c,a⟩:=i;dsimp only
  (repeat' first|(refine ⟨⟨i+1,by omega,λj c d=>by rcases zls.1 c with q|q;exact a j q d;subst q;exact decide_eq_false (by simp_all)⟩, ?_, ?_⟩)|apply wZ;rfl|show Cn _;constructor|exact rfl|show (_:PV)=_;(first|unfold cY;rw [lK (f:=λy=>decide (x=y)) ‹_› (by simp_all) a];done|(unfold cY;rw [mS (f:=λy=>decide (x=y)) ‹_› a]));done|apply wI;rfl|apply gE;omega|omega|simp only [zql];omega|(intro h;simp at h)|intro h)
 have e:decide (cY (λy=>decide (x=y)) l>=0)=l.any λy=>decide (x=y):=by
  unfold cY;cases h:l.findIdx? (λy=>decide (x=y)) with
  |none=>
   have:=List.findIdx?_eq_none_iff.1 h;rw [Bool.eq_iff_iff,List.any_eq_true];simp only [zde];constructor
   ·intro q;omega
   ·rintro ⟨y,hy,q⟩
    have:=this y hy;simp [q] at this
  |some k=>
   obtain ⟨g,m,_⟩:=List.findIdx?_eq_some_iff_getElem.1 h;rw [Bool.eq_iff_iff,List.any_eq_true];constructor
   ·exact λ_=>⟨_,zgm g,m⟩
   ·intro _;simp
 refine pF Tryz.func171 rfl (λst=> ?_)
 (repeat' first|apply wZ;rfl|show Cn _;constructor|exact rfl|(apply hx)|show (_:PV)=_;(rw [<-e]);done|apply wY;rfl)
theorem asK (t:Tb) (o:Ot) (ht:t.cols.length<1000000000000) (hk:2<=o.kind/\o.kind<=7):PF Tryz.prog 113 [.agg t.cells, .agg o.cells] (vi (adC t o)):=by
 obtain ⟨d,e⟩:=hk;have hp:=asP o;have a:=anZ d e;unfold adC;by_cases h0:o.col<0\/o.col>=t.cols.length
 ·rw [zp h0]
  refine pF Tryz.func113 rfl (λst=> ?_)
  (repeat' first|apply wZ;rfl|show Cn _;constructor|exact rfl|intro h;simp at h;omega|(intro h;simp at h))
 rw [zn h0];by_cases f:o.col=0
 ·rw [zp f]
  refine pF Tryz.func113 rfl (λst=> ?_)
  (repeat' first|apply wZ;rfl|show Cn _;constructor|exact rfl|omega|intro h;simp at h;omega|(intro h;simp at h)|intro h)
 rw [zn f];obtain ⟨j,hj⟩:∃j:Nat,o.col=j:=⟨o.col.toNat,by omega⟩;have c:j<t.cols.length:=by omega
 rw [hj,Int.toNat_natCast,getElem!_pos t.cols j c];have hc:=aeT (abT o.kind) t.cols[j].kind (by have:=azH o.kind;omega);rw [aEm] at hc;have hv:=aBQ t.cols[j] o;generalize sP t.cols[j] o=V at*;generalize akG o=i at*;generalize ahX o.kind t.cols[j].kind=F at*;generalize (abT o.kind).map I1=k at*;cases F with
 |false=>
  rw [zp rfl];refine pF Tryz.func113 rfl (λst=> ?_)
  (repeat' first|apply iX;(intro hw;exact hj);(apply gE;omega);rfl|apply wZ;rfl|show Cn _;constructor|exact rfl|apply KR.mk;kernel_rfl|((first|apply mR|apply hc))|apply lT pk;(iterate 4 rfl);(focus repeat' constructor);rfl;exact a;rfl|apply wY;rfl|apply wI;rfl|omega|intro h;simp at h;omega|(intro h;simp at h)|intro h)
 |true=>
 rw [zn (by simp)];by_cases g:V≠0
 ·rw [zp g]
  refine pF Tryz.func113 rfl (λst=> ?_)
  (repeat' first|apply iX;(intro hw;exact hj);(apply gE;omega);rfl|apply wZ;rfl|show Cn _;constructor|exact rfl|apply KR.mk;kernel_rfl|((first|apply mR|apply hc|apply hv))|apply lT pk;(iterate 4 rfl);(focus repeat' constructor);rfl;exact a;rfl|apply wY;rfl|apply wI;rfl|omega|intro h;simp at h;omega|(intro h;simp at h)|intro h)
 rw [zn g];cases i with
 |false=>
  rw [zp rfl];refine pF Tryz.func113 rfl (λst=> ?_)
  (repeat' first|apply iX;(intro hw;exact hj);(apply gE;omega);rfl|apply wZ;rfl|show Cn _;constructor|exact rfl|apply KR.mk;kernel_rfl|((first|apply mR|apply hc|apply hv|apply hp))|apply lT pk;(iterate 4 rfl);(focus repeat' constructor);rfl;exact a;rfl|apply wY;rfl|apply wI;rfl|omega|intro h;simp at h;omega|(intro h;simp at h)|intro h)
 |true=>
  rw [zn (by simp)];refine pF Tryz.func113 rfl (λst=> ?_)
  (repeat' first|apply iX;(intro hw;exact hj);(apply gE;omega);rfl|apply wZ;rfl|show Cn _;constructor|exact rfl|apply KR.mk;kernel_rfl|((first|apply mR|apply hc|apply hv|apply hp))|apply lT pk;(iterate 4 rfl);(focus repeat' constructor);rfl;exact a;rfl|apply wY;rfl|apply wI;rfl|omega|intro h;simp at h;omega|(intro h;simp at h)|intro h)
theorem amJ (s:Sc) (o:Ot) (hs:s.length<1000000000000) (ht:∀t∈s,t.cols.length<1000000000000) (n:∀t∈s,PF Tryz.prog 82 [.seq (t.cols.map Co.cells), .seq (o.row.map Vl.cells)] (vi (fA t o.row))):PF Tryz.prog 69 [.agg (scC s), .agg o.cells] (vi (eO s o)):=by
 have c:=dX o.kind 1 8;have g:(s.map Tb.cells).length=s.length:=zql _;have d:=dX o.table 0 (((s.map Tb.cells).length:Nat)-1);unfold T.withinB at c d;unfold eO;by_cases h0:o.kind<1\/o.kind>8
 ·rw [zp h0]
  have e:(decide (o.kind>=1)&&decide (o.kind<=8))=false:=by rw [<-Bool.not_eq_true];simp;omega
  rw [e] at c;refine pF Tryz.func69 rfl (λst=> ?_)
  (repeat' first|apply wZ;rfl|show Cn _;constructor|exact rfl|(apply c)|apply wY;rfl)
 rw [zn h0];have e:(decide (o.kind>=1)&&decide (o.kind<=8))=true:=by simp;omega
 rw [e] at c;by_cases i:o.table<0\/o.table>=s.length
 ·rw [zp i]
  have e:(decide (o.table>=0)&&decide (o.table<=((s.map Tb.cells).length:Int)-1))=false:=by rw [<-Bool.not_eq_true,g];simp;omega
  rw [e] at d;refine pF Tryz.func69 rfl (λst=> ?_)
  (repeat' first|apply wZ;rfl|show Cn _;constructor|exact rfl|((first|apply c|apply d))|apply wY;rfl|omega)
 rw [zn i];have e:(decide (o.table>=0)&&decide (o.table<=((s.map Tb.cells).length:Int)-1))=true:=by rw [g];simp;omega
 rw [e] at d;obtain ⟨k,hk⟩:∃k:Nat,o.table=k:=⟨o.table.toNat,by omega⟩;have f:k<s.length:=by omega
 have hm:=zgm f;rw [hk,Int.toNat_natCast,getElem!_pos s k f];have hi:=alA s[k] o (n _ hm);by_cases j:o.kind=1
 ·rw [zp j]
  refine pF Tryz.func69 rfl (λst=> ?_)
  (repeat' first|apply iX;(intro hw;exact hk);(apply gE;omega);rfl|apply wZ;rfl|show Cn _;constructor|exact rfl|apply KR.mk;kernel_rfl|((first|apply c|apply d|apply hi))|apply wY;rfl|apply wI;rfl|omega|intro h)
 rw [zn j];have a:=nY o.key;generalize aAo o.key=K at*;by_cases l:o.row.length>0\/K=false
 ·rw [zp l]
  refine pF Tryz.func69 rfl (λst=> ?_)
  (repeat' first|apply wZ;rfl|show Cn _;constructor|exact rfl|((first|apply c|apply d|apply a))|apply wY;rfl|omega|(exfalso;grind)|(intro h;simp at h)|intro h)
 rw [zn l];by_cases h8:o.kind≠8
 ·rw [zp h8]
  have hc:=asK s[k] o (ht _ hm) (by omega);refine pF Tryz.func69 rfl (λst=> ?_)
  (repeat' first|apply iX;(intro hw;exact hk);(apply gE;omega);rfl|apply wZ;rfl|show Cn _;constructor|exact rfl|apply KR.mk;kernel_rfl|((first|apply c|apply d|apply a|apply hc))|apply wY;rfl|apply wI;rfl|omega|(exfalso;grind)|(intro h;simp at h)|intro h)
 rw [zn h8];have hb:=acS o;cases m:tO o with
 |false=>
  rw [zp rfl];rw [m] at hb;refine pF Tryz.func69 rfl (λst=> ?_)
  (repeat' first|apply wZ;rfl|show Cn _;constructor|exact rfl|((first|apply c|apply d|apply a|apply hb))|apply wY;rfl|omega|(intro h;simp at h)|intro h)
 |true=>
  rw [zn (by simp)];rw [m] at hb;refine pF Tryz.func69 rfl (λst=> ?_)
  (repeat' first|apply wZ;rfl|show Cn _;constructor|exact rfl|((first|apply c|apply d|apply a|apply hb))|apply wY;rfl|omega|(exfalso;grind)|(intro h;simp at h)|intro h)
theorem aGI {α:Type} (f:α->Bool) (l:List α):decide (cY f l>=0)=l.any f:=by
 unfold cY;cases h:l.findIdx? f with
 |none=>
  have:=List.findIdx?_eq_none_iff.1 h;rw [Bool.eq_iff_iff,List.any_eq_true];simp only [zde];constructor
  ·intro q;omega
  ·rintro ⟨y,hy,q⟩
   have:=this y hy;rw [q] at this;cases this
 |some k=>
  obtain ⟨a,c,_⟩:=List.findIdx?_eq_some_iff_getElem.1 h;rw [Bool.eq_iff_iff,List.any_eq_true];constructor
  ·exact λ_=>⟨_,zgm a,c⟩
  ·intro _;simp
theorem aAH (c:FuncId) (caps:List PV) (f:Int->Bool) (l:List Int) (hl:l.length<4611686018427387904) (hf:∀p,PF Tryz.prog c ([(vi (p))]++caps) (vb (f p))):PF Tryz.prog 236 [.seq (l.map I1), .fn c caps] (vi (cY f l)):=by
 refine pF Tryz.func236 rfl (λst=> ?_)
 (repeat' first|apply wZ;rfl|show Cn _;constructor)
 refine aC (X:={x:Nat//x<=l.length/\∀j (h:j<x) (d:j<l.length),f l[j]=false}) (λi=>(((((St.nil 19 st).pv 0 (.seq (l.map I1))).pv 1 (.fn c caps)).pv 7 ((vi ((((l.map I1)).length:Nat))))).pv 8 ((vi ((i.1:Nat)))))) (λi=>l.length-i.1) ⟨0,by omega,by omega⟩ ?_ (λi=> ?_)
 ·(repeat' first|show Cn _;constructor|exact rfl)
 obtain ⟨i,hi,a⟩:=i;dsimp only
 (repeat' first|(refine ⟨⟨i+1,by omega,λj e d=>by rcases zls.1 e with q|q;exact a j q d;subst q;assumption⟩, ?_, ?_⟩)|apply wZ;rfl|show Cn _;constructor|exact rfl|(apply hf)|show (_:PV)=_;(first|unfold cY;rw [lK ‹_› ‹_› a];done|unfold cY;rw [mS ‹_› a]);done|apply wY;rfl|apply wI;rfl|apply gE;omega|omega|simp only [zql];omega|(intro h;simp at h)|intro h)
theorem aAp (n:Int):PF Tryz.prog 169 [(vi (n))] (vb (!okV n)):=by
 have e:(!okV n)=(decide (n<0)||decide (n>1048576)):=by unfold okV;rw [Bool.eq_iff_iff];simp<;>omega
 rw [e];refine pF Tryz.func169 rfl (λst=> ?_)
 (repeat' first|apply wZ;rfl|show Cn _;constructor|exact rfl)
theorem akS (v:List Int) (hl:v.length<1000000000000):PF Tryz.prog 110 [.seq (v.map I1)] (vb (aCG v)):=by
 have hx:=aAH 169 [] (λn=> !okV n) v (by omega) aAp;have hc:PF Tryz.prog 170 [.seq (v.map I1), .fn 169 []] (vb (v.any λn=> !okV n)):=by
  rw [<-aGI];generalize cY (λn=> !okV n) v=X at*;refine pF Tryz.func170 rfl (λst=> ?_)
  (repeat' first|apply wZ;rfl|show Cn _;constructor|exact rfl|(apply hx)|apply wY;rfl)
 have e:aCG v=(decide ((v.length:Int)<=64)&& !(v.any λn=> !okV n)):=by
  unfold aCG;rw [Bool.eq_iff_iff];simp;omega
 rw [e];generalize (v.any λn=> !okV n)=A at*;refine pF Tryz.func110 rfl (λst=> ?_)
 (repeat' first|apply wZ;rfl|show Cn _;constructor|exact rfl|(apply hc)|show (_:PV)=_;(simp only [zql];done);done|apply wY;rfl)
theorem aCh (v:List Int) (d:Int) (hl:v.length<1000000000000):PF Tryz.prog 295 [.seq (v.map I1),(vi (d))] (vi (ofV v d)):=by
 unfold ofV;by_cases h:d<1\/d>v.length
 ·rw [zp h]
  refine pF Tryz.func295 rfl (λst=> ?_)
  (repeat' first|apply wZ;rfl|show Cn _;constructor|exact rfl|intro h;simp at h;omega|(intro h;simp at h))
 ·rw [zn h]
  obtain ⟨k,hk⟩:∃k:Nat,d=k+1:=⟨(d-1).toNat,by omega⟩;have c:k<v.length:=by omega
  have e:(d-1).toNat=k:=by omega
  rw [e,getElem!_pos v k c];have a:d-1=((k:Nat):Int):=by omega
  refine pF Tryz.func295 rfl (λst=> ?_)
  (repeat' first|apply iX;(intro hw;exact a);(apply gE;omega);rfl|apply wZ;rfl|show Cn _;constructor|exact rfl|apply wI;rfl|omega|intro h;simp at h;omega|(intro h;simp at h))
theorem ahY (v:List Int) (d:Dt) (hl:v.length<1000000000000):PF Tryz.prog 244 [.seq (v.map I1), .agg d.cells] (vb (aqN v d)):=by
 have h:=aCh v d.dev hl;unfold aqN;generalize ofV v d.dev=N at*;refine pF Tryz.func244 rfl (λst=> ?_)
 (repeat' first|apply wZ;rfl|show Cn _;constructor|exact rfl|apply KR.mk;kernel_rfl|(apply h)|apply wY;rfl)
theorem wkC (n:Int):Wk (.agg [(vi (2)),(vi (1)),(vi (n)), .val (.string e0), .val (.slice none 0 0)]) (.agg (pV n).cells):= .agg (.cons (zwr _) (.cons (zwr _) (.cons (zwr _) (.cons (zwr _) (.cons Wk.nil .nil)))))
def inL (n:Int):Prop:= -4398046511104<=n/\n<=4398046511104
theorem aB3 {l:List Int} {i:Nat} (h:i<l.length):(l.take (i+1)).sum=(l.take i).sum+l[i]:=by
 rw [List.take_succ_eq_append_getElem h,List.sum_append];simp
theorem aIb {l:List Int} (h:∀n∈l,inL n): -4398046511104*(l.length:Int)<=l.sum/\l.sum<=4398046511104*(l.length:Int):=by
 induction l with
 |nil=>simp
 |cons a l ih=>
  have c:=h a (by simp);have d:=ih λn hn=>h n (List.mem_cons_of_mem _ hn);unfold inL at c;rw [List.sum_cons,zlc];omega
theorem xF (l:List Int) (hl:l.length<=10) (h:∀n∈l,inL n):PF Tryz.prog 246 [.seq (l.map I1)] (.agg (pV l.sum).cells):=by
 refine pF Tryz.func246 rfl (λst=> ?_)
 focus ((repeat' first|apply wZ;rfl|show Cn _;constructor))
 refine aC (X:={x:Nat//x<=l.length}) (λi=>((((((St.nil 19 st).var 2 110 ([(vi (0)),(vi (0)),(vi (0)),(vs (e0)), .val (.slice none 0 0)])).pv 3 ((vi ((l.take i.1).sum)))).pv 6 (.seq (l.map I1))).pv 7 ((vi ((((l.map I1)).length:Nat))))).pv 8 ((vi ((i.1:Nat)))))) (λi=>l.length-i.1) ⟨0,by omega⟩ ?_ (λi=> ?_)
 ·(repeat' first|show Cn _;constructor|exact rfl)
 obtain ⟨i,hi⟩:=i;dsimp only;by_cases a:l.length<=i
 ·rw [ztl a]
  (repeat' first|exact Cn.any ⟨_,_,_,rfl,wkC _,zsr _,rfl,rfl⟩|apply wZ;rfl|show Cn _;constructor|simp only [zql];omega|(intro h;simp at h))
 have c:i<l.length:=by omega
 have hn:=h _ (zgm c);have hs:=aIb (l:=l.take i) λn hn=>h n (List.mem_of_mem_take hn);have d:(l.take i).length=i:=by rw [zlt];omega
 have e:=aB3 c;rw [d] at hs;unfold inL at hn;generalize (l.take i).sum=S at*
 (repeat' first|refine ⟨⟨i+1,by omega⟩, ?_, ?_⟩;((dsimp only;rw [e]))|apply wZ;rfl|show Cn _;constructor|exact rfl|apply wI;rfl|apply gE;omega|omega|simp only [zql];omega|(intro h;simp at h))
end
end Go.Proofs.YtfablfldonhkiaaGreatDoor
