import Derived.Test.YtloecjjehapblaaGreatDoorOpAo
import Derived.Test.YtloecjjehapblaaGreatDoorOpAh
import Derived.Test.YtloecjjehapblaaGreatDoorOpAf
import Derived.Test.YtloecjjehapblaaGreatDoorOpAl
import Derived.Test.YtloecjjehapblaaGreatDoorOpAm
import Derived.Test.YtloecjjehapblaaGreatDoorOpAn
set_option linter.unusedSimpArgs false
set_option linter.unusedVariables false
namespace Go.Proofs.YtloecjjehapblaaGreatDoor
open Go Go.Abs
section
attribute [local irreducible] Ev PWp
set_option maxRecDepth 10000
set_option maxHeartbeats 4000000
def uV (rb:Bool) (s:Sc) (b:Bs) (z:R2) (who:Dt) (M:List R2):Bs×Int:=if rb=true then (if adI b z=true then (if ajG s b (inR M)=true then (xM s b (inR M) who,0) else ([],10)) else ([],4)) else ([],1)
def lD (o:Bs×Int):PV:= .tup [.agg (bsC o.1),(PV.val (Value.int .i64 (o.2)))]
theorem nO (e:Int):Wk (.tup [.agg [.val (.slice none 0 0)],(PV.val (Value.int .i64 (e)))]) (lD ([],e)):=Wk.tup (.cons (.agg (.cons Wk.nil .nil)) (.cons (zwr _) .nil))
theorem aC2 {f:FuncId} {args:List PV} {s:Sc} {b:Bs} {z:R2} {who:Dt} {M:List R2} {st:aJ} (hz:adI b z=true) (h:PC Tryz.prog f args st (aFJ s b who M st)):PC Tryz.prog f args st λr S=>r=lD (uV true s b z who M)/\S=st:=
 gI (sz:=1) h λp st' h=>by
  unfold uV
  rw [zp rfl,zp hz]
  rcases h with ⟨h1,rfl,h2⟩|⟨h1,id,rfl,h2,h3⟩
  ·rw [zn (by rw [h1];simp)]
   exact .inr ⟨_,_,nO 10,h2,rfl,rfl⟩
  ·rw [zp h1]
   exact .inl ⟨id,86,(xM s b (inR M) who).map Da.cells,_,st,h2,agI, .tup (.cons (.agg (.cons (gG (by simp [xM])) .nil)) (.cons .refl .nil)),h3,rfl,rfl⟩
theorem aE5 {b:Bs} (h:∀k (h:k<b.length),b[k].lines.length<=100000):∀d∈b,d.lines.length<100000000000:=λd hd=>by obtain ⟨k,hk,rfl⟩:=zgo hd;have:=h k hk;omega
theorem aBe {s:Sc} {b:Bs} {rb:Bool} (hr:PF Tryz.prog 19 [.agg (scC s), .agg (bsC b)] (.val (.bool rb))) (hF:rb=true->FolD s b) (z:R2) (who:Dt):PF Tryz.prog 156 [.agg (scC s), .agg (bsC b),(.val (.int .i64 z.1)),(.val (.int .i64 z.2)), .agg who.cells] (lD (uV rb s b z who (tC s b z))):=by
 cases rb with
 |false=>
  refine aG aD Tryz.func156 (by kernel_rfl) rfl rfl rfl rfl (λst=> ?_)
  (try apply wO pk;rfl);(repeat' first|refine aB ?_;exact ⟨_,_,_,rfl,nO 1,zsr _,rfl,rfl⟩|show Cn _;constructor|apply wC pk;rfl;rfl|apply wE pk;rfl;rfl|refine aA rfl ?_ ?_<;>intro h<;>(try simp at h)<;>try omega|(apply aH;rfl;rfl;rfl;(intro _;apply hr<;>first|assumption|omega);rotate_left;rfl;rfl))
 |true=>
  have hFo:=hF rfl
  by_cases hz:adI b z=true
  ·exact λst=>aC2 hz (aEB hFo hr z who hz st)
  ·have hk:=aiH hFo.toFol (aE5 hFo.ln) z
   unfold aDX at hk
   have hM:tC s b z=[]:=by unfold tC;rw [zn hz]
   unfold uV
   rw [zp rfl,zn hz]
   rw [hM] at hk
   refine aG aD Tryz.func156 (by kernel_rfl) rfl rfl rfl rfl (λst=> ?_)
   (try apply wO pk;rfl);(repeat' first|apply lnF pk;rfl;rfl;rfl;rotate_left;rfl;rfl|refine aB ?_;exact ⟨_,_,_,rfl,nO 4,zsr _,rfl,rfl⟩|show Cn _;constructor|apply wC pk;rfl;rfl|apply wE pk;rfl;rfl|refine aA rfl ?_ ?_<;>intro h<;>(try simp at h)<;>try omega|(apply aH;rfl;rfl;rfl;(intro _;(first|apply hr|apply hk)<;>first|assumption|omega);rotate_left;rfl;rfl)|((exfalso;simp [bB,mE] at*;done)))
end
section
attribute [local irreducible] Ev PWp
set_option maxRecDepth 10000
set_option maxHeartbeats 4000000
variable {tx:Cl->Int}
theorem aBn {s:Sc} {b:Bs} (h:cH tx s b=true) {k:Nat} (hk:k<s.length) {f:Fr} (hf:f∈s[k].foreign) {l:Ln} (hl:l∈b[k]!.lines):xE l f.col:=λj hj e=>by
 obtain ⟨⟨h1,h2⟩,_⟩:=bX.1 h
 have hkb:k<b.length:=by omega
 rw [getElem!_pos b k hkb] at hl
 have hL:=vT h hkb hl
 have hfo:=aBl h1 hk hf
 rw [hL.kind j hj,getElem!_pos s k hk]
 have:=hfo.kind
 rwa [show f.col.toNat=j by omega] at this
theorem aFb {s:Sc} {b:Bs} (h:cH tx s b=true) (hB:BsS 1000 b):Fol s b:=by
 obtain ⟨⟨h1,h2⟩,_⟩:=bX.1 h
 exact ⟨h2,ayR h1,λk hk=>aqD h1 hk,λk hk f hf l hl=>aBn h hk hf hl,λk hk=>by have:=(hB.2 _ (zgm hk)).1;omega⟩
theorem aC8 {s:Sc} {b:Bs} (h:cH tx s b=true) (hB:BsS 1000 b):FolD s b:=
 ⟨aFb h hB,λk hk=>by have:=(hB.2 _ (zgm hk)).1;omega,λk hk l hl=>by have:=(hB.2 _ (zgm hk)).2 l hl;exact ⟨by have:=this.2.1;omega,by have:=this.1;omega⟩,λk hk i j hi hj e=>aE9 (bX.1 h).1.1 hk i j hi hj e⟩
end
section
set_option maxRecDepth 10000
set_option maxHeartbeats 4000000
def aoL (t:Tb) (G:R2->Bool) (l:Ln) (c:Int):Bool:=t.foreign.any λf=>decide (f.col=c)&&eB G l f
theorem arI {t:Tb} {G:R2->Bool} {l:Ln} {c:Int}:aoL t G l c=true↔∃f∈t.foreign,f.col=c/\eB G l f=true:=by
 unfold aoL
 rw [List.any_eq_true]
 simp only [zba,zde]
theorem aAG (t:Tb) (G:R2->Bool) (who:Dt) (l:Ln):(kS t G who l).key=l.key:=by unfold kS;split<;>rfl
theorem ayN {s:Sc} {b:Bs} {G:R2->Bool} {who:Dt} {k:Nat} (hk:k<b.length):(xM s b G who)[k]!.lines=qG s b G who k:=by
 have h:k<(xM s b G who).length:=by simpa [xM] using hk
 rw [getElem!_pos _ k h]
 simp [xM]
theorem afX (s:Sc) (b:Bs) (G:R2->Bool) (who:Dt):(xM s b G who).length=b.length:=by simp [xM]
theorem ajF {s:Sc} {b:Bs} {G:R2->Bool} {who:Dt} {k:Nat} {x:Ln}:x∈qG s b G who k↔∃l∈b[k]!.lines,G ((k:Int),l.key)=false/\x=kS s[k]! G who l:=by
 unfold qG
 simp only [List.mem_map,List.mem_filter,Bool.not_eq_true']
 exact ⟨λ⟨l,⟨h1,h2⟩,e⟩=>⟨l,h1,h2,e.symm⟩,λ⟨l,h1,h2,e⟩=>⟨l,⟨h1,h2⟩,e.symm⟩⟩
section
variable {s:Sc} {b:Bs} {G:R2->Bool} {who:Dt}
end
end
section
attribute [local irreducible] Ev PWp
set_option maxRecDepth 10000
set_option maxHeartbeats 4000000
theorem aeC (a:Ln) (d:Dt):(cV a d).by_.length<=a.by_.length+1:=by
 unfold cV
 split
 ·omega
 ·show (cJ a.by_ (fN a.by_ d) [d]).length<=_
  rw [qD (amU _ _)];exact Nat.le_refl _
theorem abV {l:List Dt}:wJ l=true↔(∀x∈l,fG x=true)/\auH l:=by
 unfold wJ
 rw [pM]
 constructor
 ·intro h
  refine ⟨λx hx=> ?_,aEb λk hk=> ?_⟩
  ·obtain ⟨k,hk,rfl⟩:=zgo hx
   have:=h k hk
   unfold adF at this
   rw [getElem!_pos l k hk,zba] at this
   exact this.1
  ·have:=h k hk
   unfold adF at this
   rw [zba] at this
   exact this.2
 ·rintro ⟨h1,h2⟩ k hk
  unfold adF
  rw [getElem!_pos l k hk,h1 _ (zgm hk),Bool.true_and]
  rcases Nat.eq_zero_or_pos k with rfl|h0
  ·rfl
  ·rw [getElem!_pos l (k-1) (by omega),List.pairwise_iff_getElem.1 h2 (k-1) k (by omega) hk (by omega)]
   simp
theorem acP {a:Ln} {d:Dt} (h:wJ a.by_=true) (hd:fG d=true):wJ (cV a d).by_=true:=by
 obtain ⟨h1,h2⟩:=abV.1 h
 rw [akV]
 refine abV.2 ⟨λx hx=> ?_,avJ h2 d⟩
 rcases (aiF _ _ _).1 hx with rfl|q
 ·exact hd
 ·exact h1 x q
theorem auQ {tx:Cl->Int}:jS tx Cl.zero=true:=by
 unfold jS
 rw [zp (show Cl.zero.kind=0 from rfl)]
 decide
theorem aCr {tx:Cl->Int} {s:Sc} {t:Tb} (hfr:∀f∈t.foreign,FrOK s t f) {G:R2->Bool} {who:Dt} {l:Ln} (h:LineOK tx t l) (hd:fG who=true):LineOK tx t (kS t G who l):=by
 unfold kS
 split
 ·obtain ⟨k1,k2,ln,kd,ce,ze,ds⟩:=h
  have hat:∀j (hj:j<l.cells_.length),∃p:Prop,∃_:Decidable p,(eP (eB G l) t.foreign l.cells_)[j]'(by rw [dG];exact hj)=(if p then Cl.zero else l.cells_[j])/\(p->1<=j/\t.cols[j]!.kind=0):=λj hj=>⟨_,_,nP hj,λhp=>by
   obtain ⟨f,hf,hc,_⟩:=arI.1 (show aoL t G l j=true from hp)
   have q:=hfr f hf
   have q1:=q.c1
   have q2:=q.kind
   refine ⟨by omega, ?_⟩
   rwa [show f.col.toNat=j by omega] at q2⟩
  refine ⟨k1,k2,by rw [<-ln];exact dG ..,λj hj=> ?_,λc hc=> ?_, ?_,acP ds hd⟩
  ·have hj:j<(eP (eB G l) t.foreign l.cells_).length:=hj
   rw [dG] at hj
   obtain ⟨p,_,e,hp⟩:=hat j hj
   show (eP (eB G l) t.foreign l.cells_)[j].kind=_
   rw [e]
   split
   ·rename_i hpp;rw [(hp hpp).2];rfl
   ·exact kd j hj
  ·obtain ⟨j,hj,rfl⟩:=zgo hc
   have hj:j<(eP (eB G l) t.foreign l.cells_).length:=hj
   rw [dG] at hj
   obtain ⟨p,_,e,hp⟩:=hat j hj
   show jS tx (eP (eB G l) t.foreign l.cells_)[j]=true
   rw [e]
   split
   ·exact auQ
   ·exact ce _ (zgm hj)
  ·show (eP (eB G l) t.foreign l.cells_)[0]!.val=_
   rw [<-ze]
   by_cases hj:0<l.cells_.length
   ·obtain ⟨p,_,e,hp⟩:=hat 0 hj
    rw [getElem!_pos _ 0 (by rw [dG];exact hj),getElem!_pos l.cells_ 0 hj,e,zn λq=>absurd (hp q).1 (by omega)]
   ·have:l.cells_=[]:=List.eq_nil_of_length_eq_zero (by omega)
    rw [this];rfl
 ·exact h
theorem awC {s:Sc} {b:Bs} {G:R2->Bool} {who:Dt} {k:Nat} (h:KSort b[k]!.lines):KSort (qG s b G who k):=by
 unfold KSort qG
 rw [List.map_map,show ((λl:Ln=>l.key)∘kS s[k]! G who)=λl=>l.key from funext λl=>aAG _ _ _ _]
 unfold KSort at h
 exact h.sublist (List.Sublist.map _ List.filter_sublist)
theorem aBM {tx:Cl->Int} {s:Sc} {b:Bs} (h:cH tx s b=true) {G:R2->Bool} {who:Dt} (hd:fG who=true):cH tx s (xM s b G who)=true:=by
 obtain ⟨⟨h1,h2⟩,h3⟩:=bX.1 h
 refine bX.2 ⟨⟨h1,by rw [afX];exact h2⟩,λk hk=> ?_⟩
 rw [afX] at hk
 rw [ayN hk]
 have hd3:=h3 k hk
 rw [getElem!_pos b k hk] at hd3
 obtain ⟨q1,q2,q3⟩:=fV.1 hd3
 have hks:k<s.length:=by omega
 refine fV.2 ⟨?_,λx hx=> ?_,awC (by rw [getElem!_pos b k hk];exact q3)⟩
 ·unfold qG
  rw [zql,getElem!_pos b k hk]
  exact Nat.le_trans (List.length_filter_le ..) q1
 ·obtain ⟨l,hl,_,rfl⟩:=ajF.1 hx
  rw [getElem!_pos b k hk] at hl
  refine xW.2 (aCr (s:=s) (λf hf=> ?_) (xW.1 (q2 l hl)) hd)
  rw [getElem!_pos s k hks] at hf⊢
  exact aBl h1 hks hf
end
section
set_option maxRecDepth 10000
set_option maxHeartbeats 4000000
structure Ot where
 kind:Int
 table:Int
 key:Int
 col:Int
 row:List Vl
 val:Vl
 after:Dt
 at_:Int
def Ot.cells (o:Ot):List PV:=[(PV.val (Value.int .i64 (o.kind))),(PV.val (Value.int .i64 (o.table))),(PV.val (Value.int .i64 (o.key))),(PV.val (Value.int .i64 (o.col))), .seq (o.row.map Vl.cells),(PV.val (Value.int .i64 (o.val.kind))),(PV.val (Value.int .i64 (o.val.n))),(PV.val (Value.string (o.val.s))),(PV.val (Value.int .i64 (o.after.dev))),(PV.val (Value.int .i64 (o.after.seq))),(PV.val (Value.int .i64 (o.at_)))]
structure Wr where
 who:T.Sp
 knew:List Int
def Wr.dot (w:Wr):Dt:=⟨w.who.dev,w.who.seq⟩
def Wr.cells (w:Wr):List PV:=[(PV.val (Value.int .i64 (w.who.time))),(PV.val (Value.int .i64 (w.who.dev))),(PV.val (Value.int .i64 (w.who.seq))), .seq (w.knew.map I1)]
def rO (o:Ot):Bool:=decide (o.col=0/\o.val=Vl.zero/\o.after=Dt.zero/\o.at_=0)
def avQ (n:Int):Bool:=decide (0<=n)&&decide (n<=1073741823)
def amY (t:Tb) (o:Ot):Int:=if o.key≠0\/rO o=false then 1 else if eK t o.row≠0 then eK t o.row else if o.row.length=0\/avQ o.row[0]!.n=false then 1 else 0
def qT (c:Co) (o:Ot):Int:=if (o.kind=7/\o.val≠Vl.zero)\/cP o.val=false then 1 else if o.kind=7 then 0 else if o.kind=2/\o.val.kind=0 then (if c.null=true then 0 else 7) else if (o.kind=2/\o.val.kind≠c.type_)\/(o.kind=6/\o.val.kind≠2) then 6 else if o.kind≠2/\o.kind≠6/\o.val.kind≠1 then 6 else 0
def ahB (o:Ot):Bool:=if o.after=Dt.zero/\o.at_=0 then decide (o.kind≠7) else decide (o.kind=6\/o.kind=7)&&T.mayN ⟨o.after,o.at_⟩
def afC (k c:Int):Bool:=if k=2 then decide (c=0\/c=1) else if k=3 then decide (c=2) else if k=4\/k=5 then decide (c=3) else if k=6\/k=7 then decide (c=4) else false
def aaP (t:Tb) (o:Ot):Int:=if o.col<0\/o.col>=t.cols.length then 4 else if o.col=0 then 1 else if afC o.kind t.cols[o.col.toNat]!.kind=false then 6 else if qT t.cols[o.col.toNat]! o≠0 then qT t.cols[o.col.toNat]! o else if ahB o=false then 1 else 0
def eH (s:Sc) (o:Ot):Int:=if o.kind<1\/o.kind>8 then 1 else if o.table<0\/o.table>=s.length then 4 else if o.kind=1 then amY s[o.table.toNat]! o else if o.row.length>0\/avQ o.key=false then 1 else if o.kind≠8 then aaP s[o.table.toNat]! o else if rO o=false then 1 else 0
def okV (n:Int):Bool:=decide (0<=n)&&decide (n<=1048576)
def aAi (v:List Int):Bool:=decide (v.length<=64)&&v.all okV
def ofV (v:List Int) (d:Int):Int:=if d<1\/d>v.length then 0 else v[(d-1).toNat]!
def amX (v:List Int) (d:Dt):Bool:=decide (d.seq>=1)&&decide (d.seq<=ofV v d.dev)
def ptN (v:Vl) (d:Dt):Pt:=⟨v,d,0,0,Dt.zero,0,false⟩
def rB (d:Dt) (kn:List Int) (p:Pt):Bool:=decide (p.dot≠d)&& !amX kn p.dot
def acY {α:Type} (f:α->Bool) (l:List α):Nat:=(l.findIdx? f).getD l.length
def gS (c:Cl) (v:Vl) (d:Dt) (kn:List Int):Cl:=⟨c.kind,c.val,dL (c.parts.filter (rB d kn)) (acY (λp=>bI p.dot d) (c.parts.filter (rB d kn))) [ptN v d]⟩
def nV (n:Int):Vl:=⟨1,n,e0⟩
def rA (n:Int) (d:Dt) (p:Pt):Bool:=decide (p.val.n=n)&&decide (p.dot=d)
def nD (c:Cl) (n:Int) (d:Dt):Cl:=if c.parts.any (rA n d)=true then c else ⟨c.kind,c.val,dL c.parts (acY (λp=>eE p (ptN (nV n) d)) c.parts) [ptN (nV n) d]⟩
def rJ (n:Int) (d:Dt) (kn:List Int) (p:Pt):Bool:=decide (p.val.n≠n)||(decide (p.dot≠d)&& !amX kn p.dot)
def rG (c:Cl) (n:Int) (d:Dt) (kn:List Int):Cl:=⟨c.kind,c.val,c.parts.filter (rJ n d kn)⟩
def oM (n:Int):Cl:=⟨2,nV n,[]⟩
def sT (c:Cl) (n:Int):Cl×Int:=if cO c≠0 then (Cl.zero,cO c) else if cO (oM n)≠0 then (Cl.zero,cO (oM n)) else if cO (oM (c.val.n+n))≠0 then (Cl.zero,cO (oM (c.val.n+n))) else (oM (c.val.n+n),0)
def kE (w:Wr) (kind:Int) (v:Vl):Cl×Int:=if kind=0 then (⟨0,v,[]⟩,0) else if kind=2 then sT (oM 0) v.n else if kind=4 then T.typeP ⟨4,Vl.zero,[]⟩ v.s w.who T.Nm.zero else if v.kind=0 then (⟨kind,Vl.zero,[]⟩,0) else if kind=3 then (nD ⟨kind,Vl.zero,[]⟩ v.n w.dot,0) else (gS ⟨kind,Vl.zero,[]⟩ v w.dot w.knew,0)
def eM (w:Wr) (c:Cl) (o:Ot):Cl×Int:=if o.kind=2 then (if c.kind=0 then (⟨0,o.val,[]⟩,0) else (gS c o.val w.dot w.knew,0)) else if o.kind=3 then sT c o.val.n else if o.kind=4 then (nD c o.val.n w.dot,0) else if o.kind=5 then (rG c o.val.n w.dot w.knew,0) else if o.kind=6 then T.typeP c o.val.s w.who ⟨o.after,o.at_⟩ else (T.eraseP c ⟨o.after,o.at_⟩,0)
def nU (w:Wr) (t:Tb) (r:List Vl) (i:Nat):Cl×Int:=kE w t.cols[i]!.kind r[i]!
def jF (w:Wr) (t:Tb) (r:List Vl):Int:=eA (λi=>(nU w t r i).2) (List.range r.length)
def eN (w:Wr) (t:Tb) (r:List Vl):Ln:=⟨r[0]!.n,(List.range r.length).map λi=>(nU w t r i).1,[w.dot]⟩
def nR (w:Wr) (o:Ot) (l:Ln):Ln:=cV ⟨l.key,l.cells_.set o.col.toNat (eM w l.cells_[o.col.toNat]! o).1,l.by_⟩ w.dot
def aCc (w:Wr) (s:Sc) (b:Bs) (o:Ot):Bs×Int:=if (cL (aN b o.table) o.row[0]!.n).isSome=true then ([],8) else if (aN b o.table).length>=2000 then ([],2) else if jF w s[o.table.toNat]! o.row≠0 then ([],jF w s[o.table.toNat]! o.row) else (fP b o.table (eN w s[o.table.toNat]! o.row),0)
def akD (w:Wr) (b:Bs) (o:Ot):Bs×Int:=match cL (aN b o.table) o.key with
 |none=>([],4)
 |some l=>if (eM w l.cells_[o.col.toNat]! o).2≠0 then ([],(eM w l.cells_[o.col.toNat]! o).2) else (fP b o.table (nR w o l),0)
def bU (w:Wr) (s:Sc) (b:Bs) (o:Ot):Bs×Int:=if eH s o≠0 then ([],eH s o) else if o.kind=1 then aCc w s b o else if o.kind=8 then uV true s b (o.table,o.key) w.dot (tC s b (o.table,o.key)) else akD w b o
def uP (w:Wr):Bool:=((T.withinB w.who.time 1 1125899906842624&&T.withinB w.who.dev 1 64)&&T.withinB w.who.seq 1 1048576)&&aAi w.knew
noncomputable def rightW (w:Wr) (s:Sc) (b:Bs):Bool:=mayC s b&&uP w
noncomputable def doP (w:Wr) (s:Sc) (b:Bs) (o:Ot):Bs×Int:=if rightW w s b=true then bU w s b o else ([],1)
def bY (w:Wr) (s:Sc):Bs->List Ot->Bs×Int
 |b,[]=>(b,0)
 |b,o::r=>if (bU w s b o).2≠0 then ([],(bU w s b o).2) else bY w s (bU w s b o).1 r
noncomputable def allP (w:Wr) (s:Sc) (b:Bs) (l:List Ot):Bs×Int:=if rightW w s b=false then ([],1) else if l.length>2000 then ([],2) else if (bY w s b l).2≠0 then ([],(bY w s b l).2) else if whyC s (bY w s b l).1≠0 then ([],whyC s (bY w s b l).1) else ((bY w s b l).1,0)
end
section
attribute [local irreducible] Ev PWp
set_option maxRecDepth 10000
set_option maxHeartbeats 4000000
theorem dT (n a b:Int):PF Tryz.prog 148 [(.val (.int .i64 n)),(.val (.int .i64 a)),(.val (.int .i64 b))] (.val (.bool (T.withinB n a b))):=by
 refine aG aD Tryz.func148 (by kernel_rfl) rfl rfl rfl rfl (λst=> ?_)
 (try apply wO pk;rfl);(repeat' first|show Cn _;constructor|(refine aB ?_;refine ⟨_,_,_,rfl,zwr _,zsr _, ?_,rfl⟩;try rfl))
theorem mP (n:Int):PF Tryz.prog 151 [(.val (.int .i64 n))] (.val (.bool (avQ n))):=by
 have h:=dT n 0 1073741823
 refine aG aD Tryz.func151 (by kernel_rfl) rfl rfl rfl rfl (λst=> ?_)
 (try apply wO pk;rfl);(repeat' first|show Cn _;constructor|apply wE pk;rfl;rfl|(refine aB ?_;refine ⟨_,_,_,rfl,zwr _,zsr _, ?_,rfl⟩;try rfl)|(apply aH;rfl;rfl;rfl;(intro _;apply h<;>first|assumption|omega);rotate_left;rfl;rfl))
theorem aFO (d:Dt):(decide (d.dev=0)&&decide (d.seq=0))=decide (d=Dt.zero):=by
 rw [Bool.eq_iff_iff];simp [Dt.ext_iff,Dt.zero]
theorem aEy (v:Vl):(decide (v.kind=0)&&(decide (v.n=0)&&decide (v.s=e0)))=decide (v=Vl.zero):=by
 rw [Bool.eq_iff_iff];simp [Vl.ext_iff,Vl.zero]
theorem zW (o:Ot):PF Tryz.prog 153 [.agg o.cells] (.val (.bool (rO o))):=by
 have e:rO o=(((decide (o.col=0)&&decide (o.val=Vl.zero))&&decide (o.after=Dt.zero))&&decide (o.at_=0)):=by unfold rO;rw [Bool.eq_iff_iff];simp [and_assoc]
 rw [e,<-aFO,<-aEy]
 refine aG aD Tryz.func153 (by kernel_rfl) rfl rfl rfl rfl (λst=> ?_)
 (try apply wO pk;rfl);(repeat' first|show Cn _;constructor|(refine aB ?_;refine ⟨_,_,_,rfl,zwr _,zsr _, ?_,rfl⟩;try rfl))
theorem ahS (t:Tb) (o:Ot) (hr:PF Tryz.prog 105 [.seq (t.cols.map Co.cells), .seq (o.row.map Vl.cells)] (.val (.int .i64 (eK t o.row)))):PF Tryz.prog 150 [.agg t.cells, .agg o.cells] (.val (.int .i64 (amY t o))):=by
 have hb:=zW o
 unfold amY
 generalize eK t o.row=R at*
 generalize rO o=B at*
 by_cases h0:o.key≠0\/B=false
 ·rw [zp h0]
  refine aG aD Tryz.func150 (by kernel_rfl) rfl rfl rfl rfl (λst=> ?_)
  (try apply wO pk;rfl);(repeat' first|exfalso;revert h0;simp_all;done|show Cn _;constructor|apply wC pk;rfl;rfl|apply wE pk;rfl;rfl|refine aA rfl ?_ ?_<;>intro h<;>(try simp at h)<;>try omega|(refine aB ?_;refine ⟨_,_,_,rfl,zwr _,zsr _, ?_,rfl⟩;try rfl)|(apply aH;rfl;rfl;rfl;(intro _;(apply hb)<;>first|assumption|omega);rotate_left;rfl;rfl))
 rw [zn h0]
 simp only [not_or,Decidable.not_not,Bool.not_eq_false] at h0
 obtain ⟨h0,rfl⟩:=h0
 by_cases h1:R≠0
 ·rw [zp h1]
  refine aG aD Tryz.func150 (by kernel_rfl) rfl rfl rfl rfl (λst=> ?_)
  (try apply wO pk;rfl);(repeat' first|show Cn _;constructor|apply wC pk;rfl;rfl|apply wE pk;rfl;rfl|refine aA rfl ?_ ?_<;>intro h<;>(try simp at h)<;>try omega|(refine aB ?_;refine ⟨_,_,_,rfl,zwr _,zsr _, ?_,rfl⟩;try rfl)|(apply aH;rfl;rfl;rfl;(intro _;(first|apply hb|apply hr)<;>first|assumption|omega);rotate_left;rfl;rfl))
 rw [zn h1]
 have h1:=zdn h1
 by_cases h2:o.row.length=0
 ·rw [zp (.inl h2)]
  refine aG aD Tryz.func150 (by kernel_rfl) rfl rfl rfl rfl (λst=> ?_)
  (try apply wO pk;rfl);(repeat' first|show Cn _;constructor|apply wC pk;rfl;rfl|apply wE pk;rfl;rfl|refine aA rfl ?_ ?_<;>intro h<;>(try simp at h)<;>try omega|(refine aB ?_;refine ⟨_,_,_,rfl,zwr _,zsr _, ?_,rfl⟩;try rfl)|(apply aH;rfl;rfl;rfl;(intro _;(first|apply hb|apply hr|apply (mP 0))<;>first|assumption|omega);rotate_left;rfl;rfl)|apply aO pk (j:=0) (row:=Vl.zero.cells);(iterate 6 rfl);rotate_left;rfl;(intro hw;exact absurd hw (by simp [gw,h2]));(intro hw;exact absurd hw (by simp [gw,h2]));(intro hw;exact absurd hw (by simp [gw,h2]));rfl|exfalso;simp_all;done)
 have hpos:0<o.row.length:=by omega
 have hk:=mP o.row[0].n
 rw [getElem!_pos o.row 0 hpos]
 generalize avQ o.row[0].n=K at*
 cases K with
 |false=>
  rw [zp (.inr rfl)]
  refine aG aD Tryz.func150 (by kernel_rfl) rfl rfl rfl rfl (λst=> ?_)
  (try apply wO pk;rfl);(repeat' first|show Cn _;constructor|apply wC pk;rfl;rfl|apply wE pk;rfl;rfl|refine aA rfl ?_ ?_<;>intro h<;>(try simp at h)<;>try omega|(refine aB ?_;refine ⟨_,_,_,rfl,zwr _,zsr _, ?_,rfl⟩;try rfl)|(apply aH;rfl;rfl;rfl;(intro _;(first|apply hb|apply hr|apply hk)<;>first|assumption|omega);rotate_left;rfl;rfl)|apply aO pk;(iterate 6 rfl);rotate_left;rfl;(intro hw;rfl);(intro hw;apply aI<;>omega);(intro _;rfl);rfl)
 |true=>
  rw [zn (by rintro (q|q);omega;cases q)]
  refine aG aD Tryz.func150 (by kernel_rfl) rfl rfl rfl rfl (λst=> ?_)
  (try apply wO pk;rfl);(repeat' first|show Cn _;constructor|apply wC pk;rfl;rfl|apply wE pk;rfl;rfl|refine aA rfl ?_ ?_<;>intro h<;>(try simp at h)<;>try omega|(refine aB ?_;refine ⟨_,_,_,rfl,zwr _,zsr _, ?_,rfl⟩;try rfl)|(apply aH;rfl;rfl;rfl;(intro _;(first|apply hb|apply hr|apply hk)<;>first|assumption|omega);rotate_left;rfl;rfl)|apply aO pk;(iterate 6 rfl);rotate_left;rfl;(intro hw;rfl);(intro hw;apply aI<;>omega);(intro _;rfl);rfl|exfalso;simp_all;done)
theorem ayT (c:Co) (o:Ot):PF Tryz.prog 231 [.agg c.cells, .agg o.cells] (.val (.int .i64 (qT c o))):=by
 have hv:=iP o.val
 have hz:=aEy o.val
 unfold qT
 generalize cP o.val=V at*
 generalize hZ:decide (o.val=Vl.zero)=Z at*
 have hZ1:o.val≠Vl.zero↔Z=false:=by rw [<-hZ];simp
 by_cases h0:(o.kind=7/\o.val≠Vl.zero)\/V=false
 ·rw [zp h0]
  rw [hZ1] at h0
  refine aG aD Tryz.func231 (by kernel_rfl) rfl rfl rfl rfl (λst=> ?_)
  (try apply wO pk;rfl);(repeat' first|show Cn _;constructor|apply wC pk;rfl;rfl|apply wE pk;rfl;rfl|refine aA rfl ?_ ?_<;>intro h<;>(try simp at h)<;>try omega|(refine aB ?_;refine ⟨_,_,_,rfl,zwr _,zsr _, ?_,rfl⟩;try rfl)|(apply aH;rfl;rfl;rfl;(intro _;apply hv<;>first|assumption|omega);rotate_left;rfl;rfl)|(exfalso;grind))
 rw [zn h0]
 rw [hZ1] at h0
 by_cases h7:o.kind=7
 ·rw [zp h7]
  refine aG aD Tryz.func231 (by kernel_rfl) rfl rfl rfl rfl (λst=> ?_)
  (try apply wO pk;rfl);(repeat' first|show Cn _;constructor|apply wC pk;rfl;rfl|apply wE pk;rfl;rfl|refine aA rfl ?_ ?_<;>intro h<;>(try simp at h)<;>try omega|(refine aB ?_;refine ⟨_,_,_,rfl,zwr _,zsr _, ?_,rfl⟩;try rfl)|(apply aH;rfl;rfl;rfl;(intro _;apply hv<;>first|assumption|omega);rotate_left;rfl;rfl)|(exfalso;grind))
 rw [zn h7]
 by_cases h2:o.kind=2/\o.val.kind=0
 ·rw [zp h2]
  obtain ⟨h2,h3⟩:=h2
  cases hn:c.null
  ·rw [zn (by simp)]
   refine aG aD Tryz.func231 (by kernel_rfl) rfl rfl rfl rfl (λst=> ?_)
   (try apply wO pk;rfl);(repeat' first|show Cn _;constructor|apply wC pk;rfl;rfl|apply wE pk;rfl;rfl|refine aA rfl ?_ ?_<;>intro h<;>(try simp at h)<;>try omega|(refine aB ?_;refine ⟨_,_,_,rfl,zwr _,zsr _, ?_,rfl⟩;try rfl)|(apply aH;rfl;rfl;rfl;(intro _;apply hv<;>first|assumption|omega);rotate_left;rfl;rfl)|(exfalso;grind))
  ·rw [zp rfl]
   refine aG aD Tryz.func231 (by kernel_rfl) rfl rfl rfl rfl (λst=> ?_)
   (try apply wO pk;rfl);(repeat' first|show Cn _;constructor|apply wC pk;rfl;rfl|apply wE pk;rfl;rfl|refine aA rfl ?_ ?_<;>intro h<;>(try simp at h)<;>try omega|(refine aB ?_;refine ⟨_,_,_,rfl,zwr _,zsr _, ?_,rfl⟩;try rfl)|(apply aH;rfl;rfl;rfl;(intro _;apply hv<;>first|assumption|omega);rotate_left;rfl;rfl)|(exfalso;grind))
 rw [zn h2]
 by_cases h3:(o.kind=2/\o.val.kind≠c.type_)\/(o.kind=6/\o.val.kind≠2)
 ·rw [zp h3]
  refine aG aD Tryz.func231 (by kernel_rfl) rfl rfl rfl rfl (λst=> ?_)
  (try apply wO pk;rfl);(repeat' first|show Cn _;constructor|apply wC pk;rfl;rfl|apply wE pk;rfl;rfl|refine aA rfl ?_ ?_<;>intro h<;>(try simp at h)<;>try omega|(refine aB ?_;refine ⟨_,_,_,rfl,zwr _,zsr _, ?_,rfl⟩;try rfl)|(apply aH;rfl;rfl;rfl;(intro _;apply hv<;>first|assumption|omega);rotate_left;rfl;rfl)|(exfalso;grind))
 rw [zn h3]
 by_cases h4:o.kind≠2/\o.kind≠6/\o.val.kind≠1
 ·rw [zp h4]
  refine aG aD Tryz.func231 (by kernel_rfl) rfl rfl rfl rfl (λst=> ?_)
  (try apply wO pk;rfl);(repeat' first|show Cn _;constructor|apply wC pk;rfl;rfl|apply wE pk;rfl;rfl|refine aA rfl ?_ ?_<;>intro h<;>(try simp at h)<;>try omega|(refine aB ?_;refine ⟨_,_,_,rfl,zwr _,zsr _, ?_,rfl⟩;try rfl)|(apply aH;rfl;rfl;rfl;(intro _;apply hv<;>first|assumption|omega);rotate_left;rfl;rfl)|(exfalso;grind))
 rw [zn h4]
 refine aG aD Tryz.func231 (by kernel_rfl) rfl rfl rfl rfl (λst=> ?_)
 (try apply wO pk;rfl);(repeat' first|show Cn _;constructor|apply wC pk;rfl;rfl|apply wE pk;rfl;rfl|refine aA rfl ?_ ?_<;>intro h<;>(try simp at h)<;>try omega|(refine aB ?_;refine ⟨_,_,_,rfl,zwr _,zsr _, ?_,rfl⟩;try rfl)|(apply aH;rfl;rfl;rfl;(intro _;apply hv<;>first|assumption|omega);rotate_left;rfl;rfl)|(exfalso;grind))
theorem aoT (o:Ot):PF Tryz.prog 232 [.agg o.cells] (.val (.bool (ahB o))):=by
 have h1:=dT o.after.dev 1 64
 have h2:=dT o.after.seq 1 1048576
 have h3:=dT o.at_ 0 1999
 unfold ahB T.mayN
 have e:(o.after=Dt.zero/\o.at_=0)↔((o.after.dev=0/\o.after.seq=0)/\o.at_=0):=by rw [Dt.ext_iff];rfl
 by_cases h:o.after=Dt.zero/\o.at_=0
 ·rw [zp h]
  rw [e] at h
  obtain ⟨⟨a1,a2⟩,a3⟩:=h
  refine aG aD Tryz.func232 (by kernel_rfl) rfl rfl rfl rfl (λst=> ?_)
  (try apply wO pk;rfl);(repeat' first|show Cn _;constructor|apply wC pk;rfl;rfl|refine aA rfl ?_ ?_<;>intro h<;>(try simp at h)<;>try omega|(refine aB ?_;refine ⟨_,_,_,rfl,zwr _,zsr _, ?_,rfl⟩;try first|rfl|(simp;done);done))
 ·rw [zn h]
  rw [e] at h
  generalize T.withinB o.after.dev 1 64=A at*
  generalize T.withinB o.after.seq 1 1048576=B at*
  generalize T.withinB o.at_ 0 1999=C at*
  refine aG aD Tryz.func232 (by kernel_rfl) rfl rfl rfl rfl (λst=> ?_)
  (try apply wO pk;rfl);(repeat' first|show Cn _;constructor|apply wC pk;rfl;rfl|apply wE pk;rfl;rfl|refine aA rfl ?_ ?_<;>intro h<;>(try simp at h)<;>try omega|(refine aB ?_;refine ⟨_,_,_,rfl,zwr _,zsr _, ?_,rfl⟩;try first|rfl|(by_cases q6:o.kind=6<;>by_cases q7:o.kind=7<;>simp_all;done);done)|(apply aH;rfl;rfl;rfl;(intro _;(first|apply h1|apply h2|apply h3)<;>first|assumption|omega);rotate_left;rfl;rfl))
def aBX :List (Value×PV):=[(.int .i64 2, .seq [I1 0,I1 1]),(.int .i64 3, .seq [I1 2]),(.int .i64 4, .seq [I1 3]),(.int .i64 5, .seq [I1 3]),(.int .i64 6, .seq [I1 4]),(.int .i64 7, .seq [I1 4])]
theorem lO :PF Tryz.prog 230 [] (.fmap aBX):=by
 refine aG aD Tryz.func230 (by kernel_rfl) rfl rfl rfl rfl (λst=> ?_)
 focus ((try apply wO pk;rfl);(repeat' first|apply iL 0;rfl;exact aC _ _ _|((refine aB ?_;exact ⟨_,_,st,rfl,zwr _,StSub.via id hid (λj h=>by repeat (first|refine Eq.trans (aF h) ?_|rfl)),rfl,rfl⟩))|show Cn _;constructor|apply wE pk;rfl;rfl|((refine nZ rfl (λid hid=> ?_)))|apply qM aD;exact .inl rfl;(iterate 7 rfl);exact aC _ _ _;rfl))
def yU (k:Int):List Int:=if k=2 then [0,1] else if k=3 then [2] else if k=4\/k=5 then [3] else if k=6\/k=7 then [4] else []
theorem auP (k:Int):(yU k).length<=2:=by
 unfold yU
 (repeat' split)<;>simp
theorem aBF (k c:Int):((yU k).any λy=>decide (c=y))=afC k c:=by
 unfold yU afC
 repeat' split
 all_goals first|rfl|(rw [Bool.eq_iff_iff];simp)
theorem akN {k:Int} (h1:2<=k) (h2:k<=7):gH tt 302 aBX (.int .i64 k) false=some (.seq ((yU k).map I1)):=by
 have:k=2\/k=3\/k=4\/k=5\/k=6\/k=7:=by omega
 rcases this with rfl|rfl|rfl|rfl|rfl|rfl<;>rfl
theorem acE (l:List Int) (x:Int) (hl:l.length<4611686018427387904):PF Tryz.prog 229 [.seq (l.map I1),(.val (.int .i64 x))] (.val (.bool (l.any λy=>decide (x=y)))):=by
 have hx:PF Tryz.prog 303 [.seq (l.map I1),(.val (.int .i64 x))] (.val (.int .i64 (cX (λy=>decide (x=y)) l))):=by
  refine aG aD Tryz.func303 (by kernel_rfl) rfl rfl rfl rfl (λst=> ?_)
  (try apply wO pk;rfl);(repeat' ((show Cn _;constructor)))
  refine aK (X:={y:Nat//y<=l.length/\∀j (h:j<y) (h2:j<l.length),decide (x=l[j])=false}) (λi=>(((((St.nil 19 st).pv 0 (.seq (l.map I1))).pv 1 ((PV.val (Value.int .i64 (x))))).pv 7 ((PV.val (Value.int .i64 ((((l.map I1)).length:Nat)))))).pv 8 ((PV.val (Value.int .i64 ((i.1:Nat))))))) (λi=>l.length-i.1) ⟨0,by omega,by omega⟩ ?_ (λi=> ?_)
  ·((repeat refine Sub.pv ?_ rfl);exact Sub.nil _ _ _ (zsr _) rfl)
  obtain ⟨i,h1,hinv⟩:=i
  dsimp only
  (try apply wO pk;rfl);(repeat' first|show Cn _;constructor|apply wC pk;rfl;rfl|apply wE pk;rfl;rfl|refine aA rfl ?_ ?_<;>intro h<;>(try simp at h)<;>try omega|(refine aB ?_;refine ⟨_,_,_,rfl,zwr _,zsr _, ?_,rfl⟩;try first|rfl|(first|unfold cX;rw [nN (f:=λy=>decide (x=y)) ‹_› (by simp_all) hinv];done|(unfold cX;rw [mZ (f:=λy=>decide (x=y)) ‹_› hinv]));done)|apply aO pk;(iterate 6 rfl);rotate_left;rfl;(intro hw;rfl);(intro hw;apply aI<;>omega);(intro _;rfl);rfl|refine ⟨⟨i+1,by omega,λj h1 h2=>by rcases zls.1 h1 with q|q;exact hinv j q h2;subst q;exact decide_eq_false (by simp_all)⟩, ?_,by simp only;omega⟩;((repeat refine Sub.pv ?_ rfl);exact Sub.nil _ _ _ (zsr _) rfl)|intros;(try simp only [zql]);omega)
 have e:decide (cX (λy=>decide (x=y)) l>=0)=l.any λy=>decide (x=y):=by
  unfold cX
  cases h:l.findIdx? (λy=>decide (x=y)) with
  |none=>
   have:=List.findIdx?_eq_none_iff.1 h
   rw [Bool.eq_iff_iff,List.any_eq_true]
   simp only [zde]
   constructor
   ·intro q;omega
   ·rintro ⟨y,hy,q⟩
    have:=this y hy
    simp [q] at this
  |some k=>
   obtain ⟨q1,q2,_⟩:=List.findIdx?_eq_some_iff_getElem.1 h
   rw [Bool.eq_iff_iff,List.any_eq_true]
   constructor
   ·exact λ_=>⟨_,zgm q1,q2⟩
   ·intro _;simp
 refine aG aD Tryz.func229 (by kernel_rfl) rfl rfl rfl rfl (λst=> ?_)
 (try apply wO pk;rfl);(repeat' first|show Cn _;constructor|apply wE pk;rfl;rfl|(refine aB ?_;refine ⟨_,_,_,rfl,zwr _,zsr _, ?_,rfl⟩;try first|rfl|(rw [<-e]);done)|(apply aH;rfl;rfl;rfl;(intro _;apply hx<;>first|assumption|omega);rotate_left;rfl;rfl))
theorem aoP (t:Tb) (o:Ot) (ht:t.cols.length<1000000000000) (hk:2<=o.kind/\o.kind<=7):PF Tryz.prog 152 [.agg t.cells, .agg o.cells] (.val (.int .i64 (aaP t o))):=by
 obtain ⟨hk1,hk2⟩:=hk
 have hp:=aoT o
 have hlook:=akN hk1 hk2
 unfold aaP
 by_cases h0:o.col<0\/o.col>=t.cols.length
 ·rw [zp h0]
  refine aG aD Tryz.func152 (by kernel_rfl) rfl rfl rfl rfl (λst=> ?_)
  (try apply wO pk;rfl);(repeat' first|show Cn _;constructor|apply wC pk;rfl;rfl|refine aA rfl ?_ ?_<;>intro h<;>(try simp at h)<;>try omega|(refine aB ?_;refine ⟨_,_,_,rfl,zwr _,zsr _, ?_,rfl⟩;try rfl))
 rw [zn h0]
 by_cases h1:o.col=0
 ·rw [zp h1]
  refine aG aD Tryz.func152 (by kernel_rfl) rfl rfl rfl rfl (λst=> ?_)
  (try apply wO pk;rfl);(repeat' first|show Cn _;constructor|apply wC pk;rfl;rfl|refine aA rfl ?_ ?_<;>intro h<;>(try simp at h)<;>try omega|(refine aB ?_;refine ⟨_,_,_,rfl,zwr _,zsr _, ?_,rfl⟩;try rfl))
 rw [zn h1]
 obtain ⟨j,hj⟩:∃j:Nat,o.col=j:=⟨o.col.toNat,by omega⟩
 have hjl:j<t.cols.length:=by omega
 rw [hj,Int.toNat_natCast,getElem!_pos t.cols j hjl]
 have hc:=acE (yU o.kind) t.cols[j].kind (by have:=auP o.kind;omega)
 rw [aBF] at hc
 have hv:=ayT t.cols[j] o
 generalize qT t.cols[j] o=V at*
 generalize ahB o=Pl at*
 generalize afC o.kind t.cols[j].kind=F at*
 generalize (yU o.kind).map I1=FL at*
 cases F with
 |false=>
  rw [zp rfl]
  refine aG aD Tryz.func152 (by kernel_rfl) rfl rfl rfl rfl (λst=> ?_)
  (try apply wO pk;rfl);(repeat' first|show Cn _;constructor|apply wC pk;rfl;rfl|apply wE pk;rfl;rfl|apply wD pk [] [];kernel_rfl;rfl;rfl|refine aA rfl ?_ ?_<;>intro h<;>(try simp at h)<;>try omega|(refine aB ?_;refine ⟨_,_,_,rfl,zwr _,zsr _, ?_,rfl⟩;try rfl)|(apply aH;rfl;rfl;rfl;(intro _;(first|apply lO|apply hc)<;>first|assumption|omega);rotate_left;rfl;rfl)|apply aO pk;(iterate 6 rfl);rotate_left;rfl;(intro hw;exact hj);(intro hw;apply aI<;>omega);(intro _;rfl);rfl|apply kU pk;(iterate 4 rfl);(focus repeat' constructor);rfl;exact hlook;rfl)
 |true=>
 rw [zn (by simp)]
 by_cases hV:V≠0
 ·rw [zp hV]
  refine aG aD Tryz.func152 (by kernel_rfl) rfl rfl rfl rfl (λst=> ?_)
  (try apply wO pk;rfl);(repeat' first|show Cn _;constructor|apply wC pk;rfl;rfl|apply wE pk;rfl;rfl|apply wD pk [] [];kernel_rfl;rfl;rfl|refine aA rfl ?_ ?_<;>intro h<;>(try simp at h)<;>try omega|(refine aB ?_;refine ⟨_,_,_,rfl,zwr _,zsr _, ?_,rfl⟩;try rfl)|(apply aH;rfl;rfl;rfl;(intro _;(first|apply lO|apply hc|apply hv)<;>first|assumption|omega);rotate_left;rfl;rfl)|apply aO pk;(iterate 6 rfl);rotate_left;rfl;(intro hw;exact hj);(intro hw;apply aI<;>omega);(intro _;rfl);rfl|apply kU pk;(iterate 4 rfl);(focus repeat' constructor);rfl;exact hlook;rfl)
 rw [zn hV]
 cases Pl with
 |false=>
  rw [zp rfl]
  refine aG aD Tryz.func152 (by kernel_rfl) rfl rfl rfl rfl (λst=> ?_)
  (try apply wO pk;rfl);(repeat' first|show Cn _;constructor|apply wC pk;rfl;rfl|apply wE pk;rfl;rfl|apply wD pk [] [];kernel_rfl;rfl;rfl|refine aA rfl ?_ ?_<;>intro h<;>(try simp at h)<;>try omega|(refine aB ?_;refine ⟨_,_,_,rfl,zwr _,zsr _, ?_,rfl⟩;try rfl)|(apply aH;rfl;rfl;rfl;(intro _;(first|apply lO|apply hc|apply hv|apply hp)<;>first|assumption|omega);rotate_left;rfl;rfl)|apply aO pk;(iterate 6 rfl);rotate_left;rfl;(intro hw;exact hj);(intro hw;apply aI<;>omega);(intro _;rfl);rfl|apply kU pk;(iterate 4 rfl);(focus repeat' constructor);rfl;exact hlook;rfl)
 |true=>
  rw [zn (by simp)]
  refine aG aD Tryz.func152 (by kernel_rfl) rfl rfl rfl rfl (λst=> ?_)
  (try apply wO pk;rfl);(repeat' first|show Cn _;constructor|apply wC pk;rfl;rfl|apply wE pk;rfl;rfl|apply wD pk [] [];kernel_rfl;rfl;rfl|refine aA rfl ?_ ?_<;>intro h<;>(try simp at h)<;>try omega|(refine aB ?_;refine ⟨_,_,_,rfl,zwr _,zsr _, ?_,rfl⟩;try rfl)|(apply aH;rfl;rfl;rfl;(intro _;(first|apply lO|apply hc|apply hv|apply hp)<;>first|assumption|omega);rotate_left;rfl;rfl)|apply aO pk;(iterate 6 rfl);rotate_left;rfl;(intro hw;exact hj);(intro hw;apply aI<;>omega);(intro _;rfl);rfl|apply kU pk;(iterate 4 rfl);(focus repeat' constructor);rfl;exact hlook;rfl)
theorem ajB (s:Sc) (o:Ot) (hs:s.length<1000000000000) (ht:∀t∈s,t.cols.length<1000000000000) (hr:∀t∈s,PF Tryz.prog 105 [.seq (t.cols.map Co.cells), .seq (o.row.map Vl.cells)] (.val (.int .i64 (eK t o.row)))):PF Tryz.prog 100 [.agg (scC s), .agg o.cells] (.val (.int .i64 (eH s o))):=by
 have w1:=dT o.kind 1 8
 have hsl:(s.map Tb.cells).length=s.length:=zql _
 have w2:=dT o.table 0 (((s.map Tb.cells).length:Nat)-1)
 unfold T.withinB at w1 w2
 unfold eH
 by_cases h0:o.kind<1\/o.kind>8
 ·rw [zp h0]
  have e:(decide (o.kind>=1)&&decide (o.kind<=8))=false:=by rw [<-Bool.not_eq_true];simp;omega
  rw [e] at w1
  refine aG aD Tryz.func100 (by kernel_rfl) rfl rfl rfl rfl (λst=> ?_)
  (try apply wO pk;rfl);(repeat' first|show Cn _;constructor|apply wC pk;rfl;rfl|apply wE pk;rfl;rfl|refine aA rfl ?_ ?_<;>intro h<;>(try simp at h)<;>try omega|(refine aB ?_;refine ⟨_,_,_,rfl,zwr _,zsr _, ?_,rfl⟩;try rfl)|(apply aH;rfl;rfl;rfl;(intro _;apply w1<;>first|assumption|omega);rotate_left;rfl;rfl))
 rw [zn h0]
 have e:(decide (o.kind>=1)&&decide (o.kind<=8))=true:=by simp;omega
 rw [e] at w1
 by_cases h1:o.table<0\/o.table>=s.length
 ·rw [zp h1]
  have e:(decide (o.table>=0)&&decide (o.table<=((s.map Tb.cells).length:Int)-1))=false:=by rw [<-Bool.not_eq_true,hsl];simp;omega
  rw [e] at w2
  refine aG aD Tryz.func100 (by kernel_rfl) rfl rfl rfl rfl (λst=> ?_)
  (try apply wO pk;rfl);(repeat' first|show Cn _;constructor|apply wC pk;rfl;rfl|apply wE pk;rfl;rfl|refine aA rfl ?_ ?_<;>intro h<;>(try simp at h)<;>try omega|(refine aB ?_;refine ⟨_,_,_,rfl,zwr _,zsr _, ?_,rfl⟩;try rfl)|(apply aH;rfl;rfl;rfl;(intro _;(first|apply w1|apply w2)<;>first|assumption|omega);rotate_left;rfl;rfl)|intros;(try simp only [zql]);omega)
 rw [zn h1]
 have e:(decide (o.table>=0)&&decide (o.table<=((s.map Tb.cells).length:Int)-1))=true:=by rw [hsl];simp;omega
 rw [e] at w2
 obtain ⟨k,hk⟩:∃k:Nat,o.table=k:=⟨o.table.toNat,by omega⟩
 have hkl:k<s.length:=by omega
 have hm:=zgm hkl
 rw [hk,Int.toNat_natCast,getElem!_pos s k hkl]
 have hi:=ahS s[k] o (hr _ hm)
 by_cases h2:o.kind=1
 ·rw [zp h2]
  refine aG aD Tryz.func100 (by kernel_rfl) rfl rfl rfl rfl (λst=> ?_)
  (try apply wO pk;rfl);(repeat' first|show Cn _;constructor|apply wC pk;rfl;rfl|apply wE pk;rfl;rfl|apply wD pk [] [];kernel_rfl;rfl;rfl|refine aA rfl ?_ ?_<;>intro h<;>(try simp at h)<;>try omega|(refine aB ?_;refine ⟨_,_,_,rfl,zwr _,zsr _, ?_,rfl⟩;try rfl)|(apply aH;rfl;rfl;rfl;(intro _;(first|apply w1|apply w2|apply hi)<;>first|assumption|omega);rotate_left;rfl;rfl)|apply aO pk;(iterate 6 rfl);rotate_left;rfl;(intro hw;exact hk);(intro hw;apply aI<;>omega);(intro _;rfl);rfl|intros;(try simp only [zql]);omega)
 rw [zn h2]
 have hkey:=mP o.key
 generalize avQ o.key=K at*
 by_cases h3:o.row.length>0\/K=false
 ·rw [zp h3]
  refine aG aD Tryz.func100 (by kernel_rfl) rfl rfl rfl rfl (λst=> ?_)
  (try apply wO pk;rfl);(repeat' first|show Cn _;constructor|apply wC pk;rfl;rfl|apply wE pk;rfl;rfl|apply wD pk [] [];kernel_rfl;rfl;rfl|refine aA rfl ?_ ?_<;>intro h<;>(try simp at h)<;>try omega|(refine aB ?_;refine ⟨_,_,_,rfl,zwr _,zsr _, ?_,rfl⟩;try rfl)|(apply aH;rfl;rfl;rfl;(intro _;(first|apply w1|apply w2|apply hkey)<;>first|assumption|omega);rotate_left;rfl;rfl)|apply aO pk;(iterate 6 rfl);rotate_left;rfl;(intro hw;exact hk);(intro hw;apply aI<;>omega);(intro _;rfl);rfl|intros;(try simp only [zql]);omega|(exfalso;grind))
 rw [zn h3]
 by_cases h8:o.kind≠8
 ·rw [zp h8]
  have hc:=aoP s[k] o (ht _ hm) (by omega)
  refine aG aD Tryz.func100 (by kernel_rfl) rfl rfl rfl rfl (λst=> ?_)
  (try apply wO pk;rfl);(repeat' first|show Cn _;constructor|apply wC pk;rfl;rfl|apply wE pk;rfl;rfl|apply wD pk [] [];kernel_rfl;rfl;rfl|refine aA rfl ?_ ?_<;>intro h<;>(try simp at h)<;>try omega|(refine aB ?_;refine ⟨_,_,_,rfl,zwr _,zsr _, ?_,rfl⟩;try rfl)|(apply aH;rfl;rfl;rfl;(intro _;(first|apply w1|apply w2|apply hkey|apply hc)<;>first|assumption|omega);rotate_left;rfl;rfl)|apply aO pk;(iterate 6 rfl);rotate_left;rfl;(intro hw;exact hk);(intro hw;apply aI<;>omega);(intro _;rfl);rfl|intros;(try simp only [zql]);omega|(exfalso;grind))
 rw [zn h8]
 have hb:=zW o
 cases hB:rO o with
 |false=>
  rw [zp rfl]
  rw [hB] at hb
  refine aG aD Tryz.func100 (by kernel_rfl) rfl rfl rfl rfl (λst=> ?_)
  (try apply wO pk;rfl);(repeat' first|show Cn _;constructor|apply wC pk;rfl;rfl|apply wE pk;rfl;rfl|refine aA rfl ?_ ?_<;>intro h<;>(try simp at h)<;>try omega|(refine aB ?_;refine ⟨_,_,_,rfl,zwr _,zsr _, ?_,rfl⟩;try rfl)|(apply aH;rfl;rfl;rfl;(intro _;(first|apply w1|apply w2|apply hkey|apply hb)<;>first|assumption|omega);rotate_left;rfl;rfl)|intros;(try simp only [zql]);omega)
 |true=>
  rw [zn (by simp)]
  rw [hB] at hb
  refine aG aD Tryz.func100 (by kernel_rfl) rfl rfl rfl rfl (λst=> ?_)
  (try apply wO pk;rfl);(repeat' first|show Cn _;constructor|apply wC pk;rfl;rfl|apply wE pk;rfl;rfl|refine aA rfl ?_ ?_<;>intro h<;>(try simp at h)<;>try omega|(refine aB ?_;refine ⟨_,_,_,rfl,zwr _,zsr _, ?_,rfl⟩;try rfl)|(apply aH;rfl;rfl;rfl;(intro _;(first|apply w1|apply w2|apply hkey|apply hb)<;>first|assumption|omega);rotate_left;rfl;rfl)|intros;(try simp only [zql]);omega|(exfalso;grind))
end
end Go.Proofs.YtloecjjehapblaaGreatDoor
