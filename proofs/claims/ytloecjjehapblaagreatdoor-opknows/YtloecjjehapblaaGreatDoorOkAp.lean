import Derived.Test.YtloecjjehapblaaGreatDoorOkAo
import Derived.Test.YtloecjjehapblaaGreatDoorOkAh
import Derived.Test.YtloecjjehapblaaGreatDoorOkAf
import Derived.Test.YtloecjjehapblaaGreatDoorOkAl
import Derived.Test.YtloecjjehapblaaGreatDoorOkAm
import Derived.Test.YtloecjjehapblaaGreatDoorOkAn
set_option linter.unusedSimpArgs false
set_option linter.unusedVariables false
namespace Go.Proofs.YtloecjjehapblaaGreatDoor
open Go Go.Abs
section
attribute [local irreducible] Ev PWp
set_option maxRecDepth 10000
set_option maxHeartbeats 4000000
def vC (rb:Bool) (s:Sc) (b:Bs) (z:R2) (who:Dt) (M:List R2):Bs×Int:=if rb=true then (if acG b z=true then (if aiJ s b (inR M)=true then (xR s b (inR M) who,0) else ([],10)) else ([],4)) else ([],1)
def rS (o:Bs×Int):PV:= .tup [.agg (bsC o.1),(PV.val (Value.int .i64 (o.2)))]
theorem nP (e:Int):Wk (.tup [.agg [.val (.slice none 0 0)],(PV.val (Value.int .i64 (e)))]) (rS ([],e)):=Wk.tup (.cons (.agg (.cons Wk.nil .nil)) (.cons (zwr _) .nil))
theorem aCy {f:FuncId} {args:List PV} {s:Sc} {b:Bs} {z:R2} {who:Dt} {M:List R2} {st:aI} (hz:acG b z=true) (h:PC Tryz.prog f args st (aFQ s b who M st)):PC Tryz.prog f args st λr S=>r=rS (vC true s b z who M)/\S=st:=
 gN (sz:=1) h λp st' h=>by
  unfold vC
  rw [zp rfl,zp hz]
  rcases h with ⟨h1,rfl,h2⟩|⟨h1,id,rfl,h2,h3⟩
  ·rw [zn (by rw [h1];simp)]
   exact .inr ⟨_,_,nP 10,h2,rfl,rfl⟩
  ·rw [zp h1]
   exact .inl ⟨id,86,(xR s b (inR M) who).map Da.cells,_,st,h2,afE, .tup (.cons (.agg (.cons (gL (by simp [xR])) .nil)) (.cons .refl .nil)),h3,rfl,rfl⟩
theorem aET {b:Bs} (h:∀k (h:k<b.length),b[k].lines.length<=100000):∀d∈b,d.lines.length<100000000000:=λd hd=>by obtain ⟨k,hk,rfl⟩:=zgo hd;have:=h k hk;omega
theorem aAE {s:Sc} {b:Bs} {rb:Bool} (hr:PF Tryz.prog 19 [.agg (scC s), .agg (bsC b)] (.val (.bool rb))) (hF:rb=true->FolD s b) (z:R2) (who:Dt):PF Tryz.prog 156 [.agg (scC s), .agg (bsC b),(.val (.int .i64 z.1)),(.val (.int .i64 z.2)), .agg who.cells] (rS (vC rb s b z who (tG s b z))):=by
 cases rb with
 |false=>
  refine aG aF Tryz.func156 (by kernel_rfl) rfl rfl rfl rfl (λst=> ?_)
  (try apply wO pk;rfl);(repeat' first|refine aC ?_;exact ⟨_,_,_,rfl,nP 1,zsr _,rfl,rfl⟩|show Cn _;constructor|apply wC pk;rfl;rfl|apply wE pk;rfl;rfl|refine aB rfl ?_ ?_<;>intro h<;>(try simp at h)<;>try omega|(apply aH;rfl;rfl;rfl;(intro _;apply hr<;>first|assumption|omega);rotate_left;rfl;rfl))
 |true=>
  have hFo:=hF rfl
  by_cases hz:acG b z=true
  ·exact λst=>aCy hz (aD8 hFo hr z who hz st)
  ·have hk:=ahG hFo.toFol (aET hFo.ln) z
   unfold aDs at hk
   have hM:tG s b z=[]:=by unfold tG;rw [zn hz]
   unfold vC
   rw [zp rfl,zn hz]
   rw [hM] at hk
   refine aG aF Tryz.func156 (by kernel_rfl) rfl rfl rfl rfl (λst=> ?_)
   (try apply wO pk;rfl);(repeat' first|apply lnF pk;rfl;rfl;rfl;rotate_left;rfl;rfl|refine aC ?_;exact ⟨_,_,_,rfl,nP 4,zsr _,rfl,rfl⟩|show Cn _;constructor|apply wC pk;rfl;rfl|apply wE pk;rfl;rfl|refine aB rfl ?_ ?_<;>intro h<;>(try simp at h)<;>try omega|(apply aH;rfl;rfl;rfl;(intro _;(first|apply hr|apply hk)<;>first|assumption|omega);rotate_left;rfl;rfl)|((exfalso;simp [aY,mE] at*;done)))
end
section
attribute [local irreducible] Ev PWp
set_option maxRecDepth 10000
set_option maxHeartbeats 4000000
variable {tx:Cl->Int}
theorem aAP {s:Sc} {b:Bs} (h:cE tx s b=true) {k:Nat} (hk:k<s.length) {f:Fr} (hf:f∈s[k].foreign) {l:Ln} (hl:l∈b[k]!.lines):xH l f.col:=λj hj e=>by
 obtain ⟨⟨h1,h2⟩,_⟩:=bU.1 h
 have hkb:k<b.length:=by omega
 rw [getElem!_pos b k hkb] at hl
 have hL:=vZ h hkb hl
 have hfo:=aAM h1 hk hf
 rw [hL.kind j hj,getElem!_pos s k hk]
 have:=hfo.kind
 rwa [show f.col.toNat=j by omega] at this
theorem aE3 {s:Sc} {b:Bs} (h:cE tx s b=true) (hB:BsS 1000 b):Fol s b:=by
 obtain ⟨⟨h1,h2⟩,_⟩:=bU.1 h
 exact ⟨h2,axI h1,λk hk=>aoW h1 hk,λk hk f hf l hl=>aAP h hk hf hl,λk hk=>by have:=(hB.2 _ (zgm hk)).1;omega⟩
theorem aCE {s:Sc} {b:Bs} (h:cE tx s b=true) (hB:BsS 1000 b):FolD s b:=
 ⟨aE3 h hB,λk hk=>by have:=(hB.2 _ (zgm hk)).1;omega,λk hk l hl=>by have:=(hB.2 _ (zgm hk)).2 l hl;exact ⟨by have:=this.2.1;omega,by have:=this.1;omega⟩,λk hk i j hi hj e=>aE0 (bU.1 h).1.1 hk i j hi hj e⟩
end
section
set_option maxRecDepth 10000
set_option maxHeartbeats 4000000
def anF (t:Tb) (G:R2->Bool) (l:Ln) (c:Int):Bool:=t.foreign.any λf=>decide (f.col=c)&&eF G l f
theorem aqC {t:Tb} {G:R2->Bool} {l:Ln} {c:Int}:anF t G l c=true↔∃f∈t.foreign,f.col=c/\eF G l f=true:=by
 unfold anF
 rw [List.any_eq_true]
 simp only [zba,zde]
theorem azW (t:Tb) (G:R2->Bool) (who:Dt) (l:Ln):(kU t G who l).key=l.key:=by unfold kU;split<;>rfl
theorem axD {s:Sc} {b:Bs} {G:R2->Bool} {who:Dt} {k:Nat} (hk:k<b.length):(xR s b G who)[k]!.lines=qK s b G who k:=by
 have h:k<(xR s b G who).length:=by simpa [xR] using hk
 rw [getElem!_pos _ k h]
 simp [xR]
theorem aeV (s:Sc) (b:Bs) (G:R2->Bool) (who:Dt):(xR s b G who).length=b.length:=by simp [xR]
theorem aiH {s:Sc} {b:Bs} {G:R2->Bool} {who:Dt} {k:Nat} {x:Ln}:x∈qK s b G who k↔∃l∈b[k]!.lines,G ((k:Int),l.key)=false/\x=kU s[k]! G who l:=by
 unfold qK
 simp only [List.mem_map,List.mem_filter,Bool.not_eq_true']
 exact ⟨λ⟨l,⟨h1,h2⟩,e⟩=>⟨l,h1,h2,e.symm⟩,λ⟨l,h1,h2,e⟩=>⟨l,⟨h1,h2⟩,e.symm⟩⟩
section
variable {s:Sc} {b:Bs} {G:R2->Bool} {who:Dt}
end
end
section
attribute [local irreducible] Ev PWp
set_option maxRecDepth 10000
set_option maxHeartbeats 4000000
theorem adE (a:Ln) (d:Dt):(dE a d).by_.length<=a.by_.length+1:=by
 unfold dE
 split
 ·omega
 ·show (cG a.by_ (fQ a.by_ d) [d]).length<=_
  rw [qH (alI _ _)];exact Nat.le_refl _
theorem abA {l:List Dt}:wT l=true↔(∀x∈l,fK x=true)/\asW l:=by
 unfold wT
 rw [pQ]
 constructor
 ·intro h
  refine ⟨λx hx=> ?_,aDJ λk hk=> ?_⟩
  ·obtain ⟨k,hk,rfl⟩:=zgo hx
   have:=h k hk
   unfold acD at this
   rw [getElem!_pos l k hk,zba] at this
   exact this.1
  ·have:=h k hk
   unfold acD at this
   rw [zba] at this
   exact this.2
 ·rintro ⟨h1,h2⟩ k hk
  unfold acD
  rw [getElem!_pos l k hk,h1 _ (zgm hk),Bool.true_and]
  rcases Nat.eq_zero_or_pos k with rfl|h0
  ·rfl
  ·rw [getElem!_pos l (k-1) (by omega),List.pairwise_iff_getElem.1 h2 (k-1) k (by omega) hk (by omega)]
   simp
theorem abN {a:Ln} {d:Dt} (h:wT a.by_=true) (hd:fK d=true):wT (dE a d).by_=true:=by
 obtain ⟨h1,h2⟩:=abA.1 h
 rw [aAA]
 refine abA.2 ⟨λx hx=> ?_,auA h2 d⟩
 rcases (axZ _ _ _).1 hx with rfl|q
 ·exact hd
 ·exact h1 x q
theorem atF {tx:Cl->Int}:jV tx Cl.zero=true:=by
 unfold jV
 rw [zp (show Cl.zero.kind=0 from rfl)]
 decide
theorem aBW {tx:Cl->Int} {s:Sc} {t:Tb} (hfr:∀f∈t.foreign,FrOK s t f) {G:R2->Bool} {who:Dt} {l:Ln} (h:LineOK tx t l) (hd:fK who=true):LineOK tx t (kU t G who l):=by
 unfold kU
 split
 ·obtain ⟨k1,k2,ln,kd,ce,ze,ds⟩:=h
  have hat:∀j (hj:j<l.cells_.length),∃p:Prop,∃_:Decidable p,(eN (eF G l) t.foreign l.cells_)[j]'(by rw [dG];exact hj)=(if p then Cl.zero else l.cells_[j])/\(p->1<=j/\t.cols[j]!.kind=0):=λj hj=>⟨_,_,nQ hj,λhp=>by
   obtain ⟨f,hf,hc,_⟩:=aqC.1 (show anF t G l j=true from hp)
   have q:=hfr f hf
   have q1:=q.c1
   have q2:=q.kind
   refine ⟨by omega, ?_⟩
   rwa [show f.col.toNat=j by omega] at q2⟩
  refine ⟨k1,k2,by rw [<-ln];exact dG ..,λj hj=> ?_,λc hc=> ?_, ?_,abN ds hd⟩
  ·have hj:j<(eN (eF G l) t.foreign l.cells_).length:=hj
   rw [dG] at hj
   obtain ⟨p,_,e,hp⟩:=hat j hj
   show (eN (eF G l) t.foreign l.cells_)[j].kind=_
   rw [e]
   split
   ·rename_i hpp;rw [(hp hpp).2];rfl
   ·exact kd j hj
  ·obtain ⟨j,hj,rfl⟩:=zgo hc
   have hj:j<(eN (eF G l) t.foreign l.cells_).length:=hj
   rw [dG] at hj
   obtain ⟨p,_,e,hp⟩:=hat j hj
   show jV tx (eN (eF G l) t.foreign l.cells_)[j]=true
   rw [e]
   split
   ·exact atF
   ·exact ce _ (zgm hj)
  ·show (eN (eF G l) t.foreign l.cells_)[0]!.val=_
   rw [<-ze]
   by_cases hj:0<l.cells_.length
   ·obtain ⟨p,_,e,hp⟩:=hat 0 hj
    rw [getElem!_pos _ 0 (by rw [dG];exact hj),getElem!_pos l.cells_ 0 hj,e,zn λq=>absurd (hp q).1 (by omega)]
   ·have:l.cells_=[]:=List.eq_nil_of_length_eq_zero (by omega)
    rw [this];rfl
 ·exact h
theorem auR {s:Sc} {b:Bs} {G:R2->Bool} {who:Dt} {k:Nat} (h:KSort b[k]!.lines):KSort (qK s b G who k):=by
 unfold KSort qK
 rw [List.map_map,show ((λl:Ln=>l.key)∘kU s[k]! G who)=λl=>l.key from funext λl=>azW _ _ _ _]
 unfold KSort at h
 exact h.sublist (List.Sublist.map _ List.filter_sublist)
theorem aBi {tx:Cl->Int} {s:Sc} {b:Bs} (h:cE tx s b=true) {G:R2->Bool} {who:Dt} (hd:fK who=true):cE tx s (xR s b G who)=true:=by
 obtain ⟨⟨h1,h2⟩,h3⟩:=bU.1 h
 refine bU.2 ⟨⟨h1,by rw [aeV];exact h2⟩,λk hk=> ?_⟩
 rw [aeV] at hk
 rw [axD hk]
 have hd3:=h3 k hk
 rw [getElem!_pos b k hk] at hd3
 obtain ⟨q1,q2,q3⟩:=gA.1 hd3
 have hks:k<s.length:=by omega
 refine gA.2 ⟨?_,λx hx=> ?_,auR (by rw [getElem!_pos b k hk];exact q3)⟩
 ·unfold qK
  rw [zql,getElem!_pos b k hk]
  exact Nat.le_trans (List.length_filter_le ..) q1
 ·obtain ⟨l,hl,_,rfl⟩:=aiH.1 hx
  rw [getElem!_pos b k hk] at hl
  refine yB.2 (aBW (s:=s) (λf hf=> ?_) (yB.1 (q2 l hl)) hd)
  rw [getElem!_pos s k hks] at hf⊢
  exact aAM h1 hks hf
end
section
set_option maxRecDepth 10000
set_option maxHeartbeats 4000000
structure Ot where
 kind:Int
 table:Int
 key:Int
 col:Int
 row:List Vl
 val:Vl
 after:Dt
 at_:Int
def Ot.cells (o:Ot):List PV:=[(PV.val (Value.int .i64 (o.kind))),(PV.val (Value.int .i64 (o.table))),(PV.val (Value.int .i64 (o.key))),(PV.val (Value.int .i64 (o.col))), .seq (o.row.map Vl.cells),(PV.val (Value.int .i64 (o.val.kind))),(PV.val (Value.int .i64 (o.val.n))),(PV.val (Value.string (o.val.s))),(PV.val (Value.int .i64 (o.after.dev))),(PV.val (Value.int .i64 (o.after.seq))),(PV.val (Value.int .i64 (o.at_)))]
structure Wr where
 who:T.Sp
 knew:List Int
def Wr.dot (w:Wr):Dt:=⟨w.who.dev,w.who.seq⟩
def Wr.cells (w:Wr):List PV:=[(PV.val (Value.int .i64 (w.who.time))),(PV.val (Value.int .i64 (w.who.dev))),(PV.val (Value.int .i64 (w.who.seq))), .seq (w.knew.map I1)]
def rT (o:Ot):Bool:=decide (o.col=0/\o.val=Vl.zero/\o.after=Dt.zero/\o.at_=0)
def anB (n:Int):Bool:=decide (0<=n)&&decide (n<=1073741823)
def aqB (t:Tb) (o:Ot):Int:=if o.key≠0\/rT o=false then 1 else if eG t o.row≠0 then eG t o.row else if o.row.length=0\/anB o.row[0]!.n=false then 1 else 0
def oP (c:Co) (o:Ot):Int:=if (o.kind=7/\o.val≠Vl.zero)\/bB o.val=false then 1 else if o.kind=7 then 0 else if o.kind=2/\o.val.kind=0 then (if c.null=true then 0 else 7) else if (o.kind=2/\o.val.kind≠c.type_)\/(o.kind=6/\o.val.kind≠2) then 6 else if o.kind≠2/\o.kind≠6/\o.val.kind≠1 then 6 else 0
def agA (o:Ot):Bool:=if o.after=Dt.zero/\o.at_=0 then decide (o.kind≠7) else decide (o.kind=6\/o.kind=7)&&T.mayN ⟨o.after,o.at_⟩
def abB (k c:Int):Bool:=if k=2 then decide (c=0\/c=1) else if k=3 then decide (c=2) else if k=4\/k=5 then decide (c=3) else if k=6\/k=7 then decide (c=4) else false
def tJ (t:Tb) (o:Ot):Int:=if o.col<0\/o.col>=t.cols.length then 4 else if o.col=0 then 1 else if abB o.kind t.cols[o.col.toNat]!.kind=false then 6 else if oP t.cols[o.col.toNat]! o≠0 then oP t.cols[o.col.toNat]! o else if agA o=false then 1 else 0
def fN (s:Sc) (o:Ot):Int:=if o.kind<1\/o.kind>8 then 1 else if o.table<0\/o.table>=s.length then 4 else if o.kind=1 then aqB s[o.table.toNat]! o else if o.row.length>0\/anB o.key=false then 1 else if o.kind≠8 then tJ s[o.table.toNat]! o else if rT o=false then 1 else 0
def okV (n:Int):Bool:=decide (0<=n)&&decide (n<=1048576)
def ayZ (v:List Int):Bool:=decide (v.length<=64)&&v.all okV
def ofV (v:List Int) (d:Int):Int:=if d<1\/d>v.length then 0 else v[(d-1).toNat]!
def alK (v:List Int) (d:Dt):Bool:=decide (d.seq>=1)&&decide (d.seq<=ofV v d.dev)
def ptN (v:Vl) (d:Dt):Pt:=⟨v,d,0,0,Dt.zero,0,false⟩
def rG (d:Dt) (kn:List Int) (p:Pt):Bool:=decide (p.dot≠d)&& !alK kn p.dot
def abW {α:Type} (f:α->Bool) (l:List α):Nat:=(l.findIdx? f).getD l.length
def gW (c:Cl) (v:Vl) (d:Dt) (kn:List Int):Cl:=⟨c.kind,c.val,dP (c.parts.filter (rG d kn)) (abW (λp=>bH p.dot d) (c.parts.filter (rG d kn))) [ptN v d]⟩
def nV (n:Int):Vl:=⟨1,n,e0⟩
def rF (n:Int) (d:Dt) (p:Pt):Bool:=decide (p.val.n=n)&&decide (p.dot=d)
def nD (c:Cl) (n:Int) (d:Dt):Cl:=if c.parts.any (rF n d)=true then c else ⟨c.kind,c.val,dP c.parts (abW (λp=>dK p (ptN (nV n) d)) c.parts) [ptN (nV n) d]⟩
def rO (n:Int) (d:Dt) (kn:List Int) (p:Pt):Bool:=decide (p.val.n≠n)||(decide (p.dot≠d)&& !alK kn p.dot)
def rL (c:Cl) (n:Int) (d:Dt) (kn:List Int):Cl:=⟨c.kind,c.val,c.parts.filter (rO n d kn)⟩
def oM (n:Int):Cl:=⟨2,nV n,[]⟩
def sX (c:Cl) (n:Int):Cl×Int:=if cJ c≠0 then (Cl.zero,cJ c) else if cJ (oM n)≠0 then (Cl.zero,cJ (oM n)) else if cJ (oM (c.val.n+n))≠0 then (Cl.zero,cJ (oM (c.val.n+n))) else (oM (c.val.n+n),0)
def kG (w:Wr) (kind:Int) (v:Vl):Cl×Int:=if kind=0 then (⟨0,v,[]⟩,0) else if kind=2 then sX (oM 0) v.n else if kind=4 then T.typeP ⟨4,Vl.zero,[]⟩ v.s w.who T.Nm.zero else if v.kind=0 then (⟨kind,Vl.zero,[]⟩,0) else if kind=3 then (nD ⟨kind,Vl.zero,[]⟩ v.n w.dot,0) else (gW ⟨kind,Vl.zero,[]⟩ v w.dot w.knew,0)
def eV (w:Wr) (c:Cl) (o:Ot):Cl×Int:=if o.kind=2 then (if c.kind=0 then (⟨0,o.val,[]⟩,0) else (gW c o.val w.dot w.knew,0)) else if o.kind=3 then sX c o.val.n else if o.kind=4 then (nD c o.val.n w.dot,0) else if o.kind=5 then (rL c o.val.n w.dot w.knew,0) else if o.kind=6 then T.typeP c o.val.s w.who ⟨o.after,o.at_⟩ else (T.eraseP c ⟨o.after,o.at_⟩,0)
def nX (w:Wr) (t:Tb) (r:List Vl) (i:Nat):Cl×Int:=kG w t.cols[i]!.kind r[i]!
def lJ (w:Wr) (t:Tb) (r:List Vl):Int:=dT (λi=>(nX w t r i).2) (List.range r.length)
def eX (w:Wr) (t:Tb) (r:List Vl):Ln:=⟨r[0]!.n,(List.range r.length).map λi=>(nX w t r i).1,[w.dot]⟩
def pS (w:Wr) (o:Ot) (l:Ln):Ln:=dE ⟨l.key,l.cells_.set o.col.toNat (eV w l.cells_[o.col.toNat]! o).1,l.by_⟩ w.dot
def aDI (w:Wr) (s:Sc) (b:Bs) (o:Ot):Bs×Int:=if (eD (aN b o.table) o.row[0]!.n).isSome=true then ([],8) else if (aN b o.table).length>=2000 then ([],2) else if lJ w s[o.table.toNat]! o.row≠0 then ([],lJ w s[o.table.toNat]! o.row) else (oY b o.table (eX w s[o.table.toNat]! o.row),0)
def arE (w:Wr) (b:Bs) (o:Ot):Bs×Int:=match eD (aN b o.table) o.key with
 |none=>([],4)
 |some l=>if (eV w l.cells_[o.col.toNat]! o).2≠0 then ([],(eV w l.cells_[o.col.toNat]! o).2) else (oY b o.table (pS w o l),0)
def dH (w:Wr) (s:Sc) (b:Bs) (o:Ot):Bs×Int:=if fN s o≠0 then ([],fN s o) else if o.kind=1 then aDI w s b o else if o.kind=8 then vC true s b (o.table,o.key) w.dot (tG s b (o.table,o.key)) else arE w b o
def rV (w:Wr):Bool:=((T.withinB w.who.time 1 1125899906842624&&T.withinB w.who.dev 1 64)&&T.withinB w.who.seq 1 1048576)&&ayZ w.knew
noncomputable def rightW (w:Wr) (s:Sc) (b:Bs):Bool:=mayC s b&&rV w
noncomputable def doP (w:Wr) (s:Sc) (b:Bs) (o:Ot):Bs×Int:=if rightW w s b=true then dH w s b o else ([],1)
def cZ (w:Wr) (s:Sc):Bs->List Ot->Bs×Int
 |b,[]=>(b,0)
 |b,o::r=>if (dH w s b o).2≠0 then ([],(dH w s b o).2) else cZ w s (dH w s b o).1 r
noncomputable def allP (w:Wr) (s:Sc) (b:Bs) (l:List Ot):Bs×Int:=if rightW w s b=false then ([],1) else if l.length>2000 then ([],2) else if (cZ w s b l).2≠0 then ([],(cZ w s b l).2) else if whyC s (cZ w s b l).1≠0 then ([],whyC s (cZ w s b l).1) else ((cZ w s b l).1,0)
end
section
attribute [local irreducible] Ev PWp
set_option maxRecDepth 10000
set_option maxHeartbeats 4000000
theorem dV (n a b:Int):PF Tryz.prog 148 [(.val (.int .i64 n)),(.val (.int .i64 a)),(.val (.int .i64 b))] (.val (.bool (T.withinB n a b))):=by
 refine aG aF Tryz.func148 (by kernel_rfl) rfl rfl rfl rfl (λst=> ?_)
 (try apply wO pk;rfl);(repeat' first|show Cn _;constructor|(refine aC ?_;refine ⟨_,_,_,rfl,zwr _,zsr _, ?_,rfl⟩;try rfl))
theorem mR (n:Int):PF Tryz.prog 151 [(.val (.int .i64 n))] (.val (.bool (anB n))):=by
 have h:=dV n 0 1073741823
 refine aG aF Tryz.func151 (by kernel_rfl) rfl rfl rfl rfl (λst=> ?_)
 (try apply wO pk;rfl);(repeat' first|show Cn _;constructor|apply wE pk;rfl;rfl|(refine aC ?_;refine ⟨_,_,_,rfl,zwr _,zsr _, ?_,rfl⟩;try rfl)|(apply aH;rfl;rfl;rfl;(intro _;apply h<;>first|assumption|omega);rotate_left;rfl;rfl))
theorem aFV (d:Dt):(decide (d.dev=0)&&decide (d.seq=0))=decide (d=Dt.zero):=by
 rw [Bool.eq_iff_iff];simp [Dt.ext_iff,Dt.zero]
theorem aD4 (v:Vl):(decide (v.kind=0)&&(decide (v.n=0)&&decide (v.s=e0)))=decide (v=Vl.zero):=by
 rw [Bool.eq_iff_iff];simp [Vl.ext_iff,Vl.zero]
theorem zT (o:Ot):PF Tryz.prog 153 [.agg o.cells] (.val (.bool (rT o))):=by
 have e:rT o=(((decide (o.col=0)&&decide (o.val=Vl.zero))&&decide (o.after=Dt.zero))&&decide (o.at_=0)):=by unfold rT;rw [Bool.eq_iff_iff];simp [and_assoc]
 rw [e,<-aFV,<-aD4]
 refine aG aF Tryz.func153 (by kernel_rfl) rfl rfl rfl rfl (λst=> ?_)
 (try apply wO pk;rfl);(repeat' first|show Cn _;constructor|(refine aC ?_;refine ⟨_,_,_,rfl,zwr _,zsr _, ?_,rfl⟩;try rfl))
theorem agR (t:Tb) (o:Ot) (hr:PF Tryz.prog 105 [.seq (t.cols.map Co.cells), .seq (o.row.map Vl.cells)] (.val (.int .i64 (eG t o.row)))):PF Tryz.prog 150 [.agg t.cells, .agg o.cells] (.val (.int .i64 (aqB t o))):=by
 have hb:=zT o
 unfold aqB
 generalize eG t o.row=R at*
 generalize rT o=B at*
 by_cases h0:o.key≠0\/B=false
 ·rw [zp h0]
  refine aG aF Tryz.func150 (by kernel_rfl) rfl rfl rfl rfl (λst=> ?_)
  (try apply wO pk;rfl);(repeat' first|exfalso;revert h0;simp_all;done|show Cn _;constructor|apply wC pk;rfl;rfl|apply wE pk;rfl;rfl|refine aB rfl ?_ ?_<;>intro h<;>(try simp at h)<;>try omega|(refine aC ?_;refine ⟨_,_,_,rfl,zwr _,zsr _, ?_,rfl⟩;try rfl)|(apply aH;rfl;rfl;rfl;(intro _;(apply hb)<;>first|assumption|omega);rotate_left;rfl;rfl))
 rw [zn h0]
 simp only [not_or,Decidable.not_not,Bool.not_eq_false] at h0
 obtain ⟨h0,rfl⟩:=h0
 by_cases h1:R≠0
 ·rw [zp h1]
  refine aG aF Tryz.func150 (by kernel_rfl) rfl rfl rfl rfl (λst=> ?_)
  (try apply wO pk;rfl);(repeat' first|show Cn _;constructor|apply wC pk;rfl;rfl|apply wE pk;rfl;rfl|refine aB rfl ?_ ?_<;>intro h<;>(try simp at h)<;>try omega|(refine aC ?_;refine ⟨_,_,_,rfl,zwr _,zsr _, ?_,rfl⟩;try rfl)|(apply aH;rfl;rfl;rfl;(intro _;(first|apply hb|apply hr)<;>first|assumption|omega);rotate_left;rfl;rfl))
 rw [zn h1]
 have h1:=zdn h1
 by_cases h2:o.row.length=0
 ·rw [zp (.inl h2)]
  refine aG aF Tryz.func150 (by kernel_rfl) rfl rfl rfl rfl (λst=> ?_)
  (try apply wO pk;rfl);(repeat' first|show Cn _;constructor|apply wC pk;rfl;rfl|apply wE pk;rfl;rfl|refine aB rfl ?_ ?_<;>intro h<;>(try simp at h)<;>try omega|(refine aC ?_;refine ⟨_,_,_,rfl,zwr _,zsr _, ?_,rfl⟩;try rfl)|(apply aH;rfl;rfl;rfl;(intro _;(first|apply hb|apply hr|apply (mR 0))<;>first|assumption|omega);rotate_left;rfl;rfl)|apply aP pk (j:=0) (row:=Vl.zero.cells);(iterate 6 rfl);rotate_left;rfl;(intro hw;exact absurd hw (by simp [gw,h2]));(intro hw;exact absurd hw (by simp [gw,h2]));(intro hw;exact absurd hw (by simp [gw,h2]));rfl|exfalso;simp_all;done)
 have hpos:0<o.row.length:=by omega
 have hk:=mR o.row[0].n
 rw [getElem!_pos o.row 0 hpos]
 generalize anB o.row[0].n=K at*
 cases K with
 |false=>
  rw [zp (.inr rfl)]
  refine aG aF Tryz.func150 (by kernel_rfl) rfl rfl rfl rfl (λst=> ?_)
  (try apply wO pk;rfl);(repeat' first|show Cn _;constructor|apply wC pk;rfl;rfl|apply wE pk;rfl;rfl|refine aB rfl ?_ ?_<;>intro h<;>(try simp at h)<;>try omega|(refine aC ?_;refine ⟨_,_,_,rfl,zwr _,zsr _, ?_,rfl⟩;try rfl)|(apply aH;rfl;rfl;rfl;(intro _;(first|apply hb|apply hr|apply hk)<;>first|assumption|omega);rotate_left;rfl;rfl)|apply aP pk;(iterate 6 rfl);rotate_left;rfl;(intro hw;rfl);(intro hw;apply aJ<;>omega);(intro _;rfl);rfl)
 |true=>
  rw [zn (by rintro (q|q);omega;cases q)]
  refine aG aF Tryz.func150 (by kernel_rfl) rfl rfl rfl rfl (λst=> ?_)
  (try apply wO pk;rfl);(repeat' first|show Cn _;constructor|apply wC pk;rfl;rfl|apply wE pk;rfl;rfl|refine aB rfl ?_ ?_<;>intro h<;>(try simp at h)<;>try omega|(refine aC ?_;refine ⟨_,_,_,rfl,zwr _,zsr _, ?_,rfl⟩;try rfl)|(apply aH;rfl;rfl;rfl;(intro _;(first|apply hb|apply hr|apply hk)<;>first|assumption|omega);rotate_left;rfl;rfl)|apply aP pk;(iterate 6 rfl);rotate_left;rfl;(intro hw;rfl);(intro hw;apply aJ<;>omega);(intro _;rfl);rfl|exfalso;simp_all;done)
theorem axK (c:Co) (o:Ot):PF Tryz.prog 231 [.agg c.cells, .agg o.cells] (.val (.int .i64 (oP c o))):=by
 have hv:=iX o.val
 have hz:=aD4 o.val
 unfold oP
 generalize bB o.val=V at*
 generalize hZ:decide (o.val=Vl.zero)=Z at*
 have hZ1:o.val≠Vl.zero↔Z=false:=by rw [<-hZ];simp
 by_cases h0:(o.kind=7/\o.val≠Vl.zero)\/V=false
 ·rw [zp h0]
  rw [hZ1] at h0
  refine aG aF Tryz.func231 (by kernel_rfl) rfl rfl rfl rfl (λst=> ?_)
  (try apply wO pk;rfl);(repeat' first|show Cn _;constructor|apply wC pk;rfl;rfl|apply wE pk;rfl;rfl|refine aB rfl ?_ ?_<;>intro h<;>(try simp at h)<;>try omega|(refine aC ?_;refine ⟨_,_,_,rfl,zwr _,zsr _, ?_,rfl⟩;try rfl)|(apply aH;rfl;rfl;rfl;(intro _;apply hv<;>first|assumption|omega);rotate_left;rfl;rfl)|(exfalso;grind))
 rw [zn h0]
 rw [hZ1] at h0
 by_cases h7:o.kind=7
 ·rw [zp h7]
  refine aG aF Tryz.func231 (by kernel_rfl) rfl rfl rfl rfl (λst=> ?_)
  (try apply wO pk;rfl);(repeat' first|show Cn _;constructor|apply wC pk;rfl;rfl|apply wE pk;rfl;rfl|refine aB rfl ?_ ?_<;>intro h<;>(try simp at h)<;>try omega|(refine aC ?_;refine ⟨_,_,_,rfl,zwr _,zsr _, ?_,rfl⟩;try rfl)|(apply aH;rfl;rfl;rfl;(intro _;apply hv<;>first|assumption|omega);rotate_left;rfl;rfl)|(exfalso;grind))
 rw [zn h7]
 by_cases h2:o.kind=2/\o.val.kind=0
 ·rw [zp h2]
  obtain ⟨h2,h3⟩:=h2
  cases hn:c.null
  ·rw [zn (by simp)]
   refine aG aF Tryz.func231 (by kernel_rfl) rfl rfl rfl rfl (λst=> ?_)
   (try apply wO pk;rfl);(repeat' first|show Cn _;constructor|apply wC pk;rfl;rfl|apply wE pk;rfl;rfl|refine aB rfl ?_ ?_<;>intro h<;>(try simp at h)<;>try omega|(refine aC ?_;refine ⟨_,_,_,rfl,zwr _,zsr _, ?_,rfl⟩;try rfl)|(apply aH;rfl;rfl;rfl;(intro _;apply hv<;>first|assumption|omega);rotate_left;rfl;rfl)|(exfalso;grind))
  ·rw [zp rfl]
   refine aG aF Tryz.func231 (by kernel_rfl) rfl rfl rfl rfl (λst=> ?_)
   (try apply wO pk;rfl);(repeat' first|show Cn _;constructor|apply wC pk;rfl;rfl|apply wE pk;rfl;rfl|refine aB rfl ?_ ?_<;>intro h<;>(try simp at h)<;>try omega|(refine aC ?_;refine ⟨_,_,_,rfl,zwr _,zsr _, ?_,rfl⟩;try rfl)|(apply aH;rfl;rfl;rfl;(intro _;apply hv<;>first|assumption|omega);rotate_left;rfl;rfl)|(exfalso;grind))
 rw [zn h2]
 by_cases h3:(o.kind=2/\o.val.kind≠c.type_)\/(o.kind=6/\o.val.kind≠2)
 ·rw [zp h3]
  refine aG aF Tryz.func231 (by kernel_rfl) rfl rfl rfl rfl (λst=> ?_)
  (try apply wO pk;rfl);(repeat' first|show Cn _;constructor|apply wC pk;rfl;rfl|apply wE pk;rfl;rfl|refine aB rfl ?_ ?_<;>intro h<;>(try simp at h)<;>try omega|(refine aC ?_;refine ⟨_,_,_,rfl,zwr _,zsr _, ?_,rfl⟩;try rfl)|(apply aH;rfl;rfl;rfl;(intro _;apply hv<;>first|assumption|omega);rotate_left;rfl;rfl)|(exfalso;grind))
 rw [zn h3]
 by_cases h4:o.kind≠2/\o.kind≠6/\o.val.kind≠1
 ·rw [zp h4]
  refine aG aF Tryz.func231 (by kernel_rfl) rfl rfl rfl rfl (λst=> ?_)
  (try apply wO pk;rfl);(repeat' first|show Cn _;constructor|apply wC pk;rfl;rfl|apply wE pk;rfl;rfl|refine aB rfl ?_ ?_<;>intro h<;>(try simp at h)<;>try omega|(refine aC ?_;refine ⟨_,_,_,rfl,zwr _,zsr _, ?_,rfl⟩;try rfl)|(apply aH;rfl;rfl;rfl;(intro _;apply hv<;>first|assumption|omega);rotate_left;rfl;rfl)|(exfalso;grind))
 rw [zn h4]
 refine aG aF Tryz.func231 (by kernel_rfl) rfl rfl rfl rfl (λst=> ?_)
 (try apply wO pk;rfl);(repeat' first|show Cn _;constructor|apply wC pk;rfl;rfl|apply wE pk;rfl;rfl|refine aB rfl ?_ ?_<;>intro h<;>(try simp at h)<;>try omega|(refine aC ?_;refine ⟨_,_,_,rfl,zwr _,zsr _, ?_,rfl⟩;try rfl)|(apply aH;rfl;rfl;rfl;(intro _;apply hv<;>first|assumption|omega);rotate_left;rfl;rfl)|(exfalso;grind))
theorem anN (o:Ot):PF Tryz.prog 232 [.agg o.cells] (.val (.bool (agA o))):=by
 have h1:=dV o.after.dev 1 64
 have h2:=dV o.after.seq 1 1048576
 have h3:=dV o.at_ 0 1999
 unfold agA T.mayN
 have e:(o.after=Dt.zero/\o.at_=0)↔((o.after.dev=0/\o.after.seq=0)/\o.at_=0):=by rw [Dt.ext_iff];rfl
 by_cases h:o.after=Dt.zero/\o.at_=0
 ·rw [zp h]
  rw [e] at h
  obtain ⟨⟨a1,a2⟩,a3⟩:=h
  refine aG aF Tryz.func232 (by kernel_rfl) rfl rfl rfl rfl (λst=> ?_)
  (try apply wO pk;rfl);(repeat' first|show Cn _;constructor|apply wC pk;rfl;rfl|refine aB rfl ?_ ?_<;>intro h<;>(try simp at h)<;>try omega|(refine aC ?_;refine ⟨_,_,_,rfl,zwr _,zsr _, ?_,rfl⟩;try first|rfl|(simp;done);done))
 ·rw [zn h]
  rw [e] at h
  generalize T.withinB o.after.dev 1 64=A at*
  generalize T.withinB o.after.seq 1 1048576=B at*
  generalize T.withinB o.at_ 0 1999=C at*
  refine aG aF Tryz.func232 (by kernel_rfl) rfl rfl rfl rfl (λst=> ?_)
  (try apply wO pk;rfl);(repeat' first|show Cn _;constructor|apply wC pk;rfl;rfl|apply wE pk;rfl;rfl|refine aB rfl ?_ ?_<;>intro h<;>(try simp at h)<;>try omega|(refine aC ?_;refine ⟨_,_,_,rfl,zwr _,zsr _, ?_,rfl⟩;try first|rfl|(by_cases q6:o.kind=6<;>by_cases q7:o.kind=7<;>simp_all;done);done)|(apply aH;rfl;rfl;rfl;(intro _;(first|apply h1|apply h2|apply h3)<;>first|assumption|omega);rotate_left;rfl;rfl))
def aBu :List (Value×PV):=[(.int .i64 2, .seq [I1 0,I1 1]),(.int .i64 3, .seq [I1 2]),(.int .i64 4, .seq [I1 3]),(.int .i64 5, .seq [I1 3]),(.int .i64 6, .seq [I1 4]),(.int .i64 7, .seq [I1 4])]
theorem lS :PF Tryz.prog 230 [] (.fmap aBu):=by
 refine aG aF Tryz.func230 (by kernel_rfl) rfl rfl rfl rfl (λst=> ?_)
 focus ((try apply wO pk;rfl);(repeat' first|apply iU 0;rfl;exact aA _ _ _|((refine aC ?_;exact ⟨_,_,st,rfl,zwr _,StSub.via id hid (λj h=>by repeat (first|refine Eq.trans (aD h) ?_|rfl)),rfl,rfl⟩))|show Cn _;constructor|apply wE pk;rfl;rfl|((refine oA rfl (λid hid=> ?_)))|apply qQ aF;exact .inl rfl;(iterate 7 rfl);exact aA _ _ _;rfl))
def yV (k:Int):List Int:=if k=2 then [0,1] else if k=3 then [2] else if k=4\/k=5 then [3] else if k=6\/k=7 then [4] else []
theorem atE (k:Int):(yV k).length<=2:=by
 unfold yV
 (repeat' split)<;>simp
theorem aBb (k c:Int):((yV k).any λy=>decide (c=y))=abB k c:=by
 unfold yV abB
 repeat' split
 all_goals first|rfl|(rw [Bool.eq_iff_iff];simp)
theorem ajN {k:Int} (h1:2<=k) (h2:k<=7):gM tt 302 aBu (.int .i64 k) false=some (.seq ((yV k).map I1)):=by
 have:k=2\/k=3\/k=4\/k=5\/k=6\/k=7:=by omega
 rcases this with rfl|rfl|rfl|rfl|rfl|rfl<;>rfl
theorem abG (l:List Int) (x:Int) (hl:l.length<4611686018427387904):PF Tryz.prog 229 [.seq (l.map I1),(.val (.int .i64 x))] (.val (.bool (l.any λy=>decide (x=y)))):=by
 have hx:PF Tryz.prog 303 [.seq (l.map I1),(.val (.int .i64 x))] (.val (.int .i64 (cS (λy=>decide (x=y)) l))):=by
  refine aG aF Tryz.func303 (by kernel_rfl) rfl rfl rfl rfl (λst=> ?_)
  (try apply wO pk;rfl);(repeat' ((show Cn _;constructor)))
  refine aK (X:={y:Nat//y<=l.length/\∀j (h:j<y) (h2:j<l.length),decide (x=l[j])=false}) (λi=>(((((St.nil 19 st).pv 0 (.seq (l.map I1))).pv 1 ((PV.val (Value.int .i64 (x))))).pv 7 ((PV.val (Value.int .i64 ((((l.map I1)).length:Nat)))))).pv 8 ((PV.val (Value.int .i64 ((i.1:Nat))))))) (λi=>l.length-i.1) ⟨0,by omega,by omega⟩ ?_ (λi=> ?_)
  ·((repeat refine Sub.pv ?_ rfl);exact Sub.nil _ _ _ (zsr _) rfl)
  obtain ⟨i,h1,hinv⟩:=i
  dsimp only
  (try apply wO pk;rfl);(repeat' first|show Cn _;constructor|apply wC pk;rfl;rfl|apply wE pk;rfl;rfl|refine aB rfl ?_ ?_<;>intro h<;>(try simp at h)<;>try omega|(refine aC ?_;refine ⟨_,_,_,rfl,zwr _,zsr _, ?_,rfl⟩;try first|rfl|(first|unfold cS;rw [nO (f:=λy=>decide (x=y)) ‹_› (by simp_all) hinv];done|(unfold cS;rw [nA (f:=λy=>decide (x=y)) ‹_› hinv]));done)|apply aP pk;(iterate 6 rfl);rotate_left;rfl;(intro hw;rfl);(intro hw;apply aJ<;>omega);(intro _;rfl);rfl|refine ⟨⟨i+1,by omega,λj h1 h2=>by rcases zls.1 h1 with q|q;exact hinv j q h2;subst q;exact decide_eq_false (by simp_all)⟩, ?_,by simp only;omega⟩;((repeat refine Sub.pv ?_ rfl);exact Sub.nil _ _ _ (zsr _) rfl)|intros;(try simp only [zql]);omega)
 have e:decide (cS (λy=>decide (x=y)) l>=0)=l.any λy=>decide (x=y):=by
  unfold cS
  cases h:l.findIdx? (λy=>decide (x=y)) with
  |none=>
   have:=List.findIdx?_eq_none_iff.1 h
   rw [Bool.eq_iff_iff,List.any_eq_true]
   simp only [zde]
   constructor
   ·intro q;omega
   ·rintro ⟨y,hy,q⟩
    have:=this y hy
    simp [q] at this
  |some k=>
   obtain ⟨q1,q2,_⟩:=List.findIdx?_eq_some_iff_getElem.1 h
   rw [Bool.eq_iff_iff,List.any_eq_true]
   constructor
   ·exact λ_=>⟨_,zgm q1,q2⟩
   ·intro _;simp
 refine aG aF Tryz.func229 (by kernel_rfl) rfl rfl rfl rfl (λst=> ?_)
 (try apply wO pk;rfl);(repeat' first|show Cn _;constructor|apply wE pk;rfl;rfl|(refine aC ?_;refine ⟨_,_,_,rfl,zwr _,zsr _, ?_,rfl⟩;try first|rfl|(rw [<-e]);done)|(apply aH;rfl;rfl;rfl;(intro _;apply hx<;>first|assumption|omega);rotate_left;rfl;rfl))
theorem anJ (t:Tb) (o:Ot) (ht:t.cols.length<1000000000000) (hk:2<=o.kind/\o.kind<=7):PF Tryz.prog 152 [.agg t.cells, .agg o.cells] (.val (.int .i64 (tJ t o))):=by
 obtain ⟨hk1,hk2⟩:=hk
 have hp:=anN o
 have hlook:=ajN hk1 hk2
 unfold tJ
 by_cases h0:o.col<0\/o.col>=t.cols.length
 ·rw [zp h0]
  refine aG aF Tryz.func152 (by kernel_rfl) rfl rfl rfl rfl (λst=> ?_)
  (try apply wO pk;rfl);(repeat' first|show Cn _;constructor|apply wC pk;rfl;rfl|refine aB rfl ?_ ?_<;>intro h<;>(try simp at h)<;>try omega|(refine aC ?_;refine ⟨_,_,_,rfl,zwr _,zsr _, ?_,rfl⟩;try rfl))
 rw [zn h0]
 by_cases h1:o.col=0
 ·rw [zp h1]
  refine aG aF Tryz.func152 (by kernel_rfl) rfl rfl rfl rfl (λst=> ?_)
  (try apply wO pk;rfl);(repeat' first|show Cn _;constructor|apply wC pk;rfl;rfl|refine aB rfl ?_ ?_<;>intro h<;>(try simp at h)<;>try omega|(refine aC ?_;refine ⟨_,_,_,rfl,zwr _,zsr _, ?_,rfl⟩;try rfl))
 rw [zn h1]
 obtain ⟨j,hj⟩:∃j:Nat,o.col=j:=⟨o.col.toNat,by omega⟩
 have hjl:j<t.cols.length:=by omega
 rw [hj,Int.toNat_natCast,getElem!_pos t.cols j hjl]
 have hc:=abG (yV o.kind) t.cols[j].kind (by have:=atE o.kind;omega)
 rw [aBb] at hc
 have hv:=axK t.cols[j] o
 generalize oP t.cols[j] o=V at*
 generalize agA o=Pl at*
 generalize abB o.kind t.cols[j].kind=F at*
 generalize (yV o.kind).map I1=FL at*
 cases F with
 |false=>
  rw [zp rfl]
  refine aG aF Tryz.func152 (by kernel_rfl) rfl rfl rfl rfl (λst=> ?_)
  (try apply wO pk;rfl);(repeat' first|show Cn _;constructor|apply wC pk;rfl;rfl|apply wE pk;rfl;rfl|apply wD pk [] [];kernel_rfl;rfl;rfl|refine aB rfl ?_ ?_<;>intro h<;>(try simp at h)<;>try omega|(refine aC ?_;refine ⟨_,_,_,rfl,zwr _,zsr _, ?_,rfl⟩;try rfl)|(apply aH;rfl;rfl;rfl;(intro _;(first|apply lS|apply hc)<;>first|assumption|omega);rotate_left;rfl;rfl)|apply aP pk;(iterate 6 rfl);rotate_left;rfl;(intro hw;exact hj);(intro hw;apply aJ<;>omega);(intro _;rfl);rfl|apply kW pk;(iterate 4 rfl);(focus repeat' constructor);rfl;exact hlook;rfl)
 |true=>
 rw [zn (by simp)]
 by_cases hV:V≠0
 ·rw [zp hV]
  refine aG aF Tryz.func152 (by kernel_rfl) rfl rfl rfl rfl (λst=> ?_)
  (try apply wO pk;rfl);(repeat' first|show Cn _;constructor|apply wC pk;rfl;rfl|apply wE pk;rfl;rfl|apply wD pk [] [];kernel_rfl;rfl;rfl|refine aB rfl ?_ ?_<;>intro h<;>(try simp at h)<;>try omega|(refine aC ?_;refine ⟨_,_,_,rfl,zwr _,zsr _, ?_,rfl⟩;try rfl)|(apply aH;rfl;rfl;rfl;(intro _;(first|apply lS|apply hc|apply hv)<;>first|assumption|omega);rotate_left;rfl;rfl)|apply aP pk;(iterate 6 rfl);rotate_left;rfl;(intro hw;exact hj);(intro hw;apply aJ<;>omega);(intro _;rfl);rfl|apply kW pk;(iterate 4 rfl);(focus repeat' constructor);rfl;exact hlook;rfl)
 rw [zn hV]
 cases Pl with
 |false=>
  rw [zp rfl]
  refine aG aF Tryz.func152 (by kernel_rfl) rfl rfl rfl rfl (λst=> ?_)
  (try apply wO pk;rfl);(repeat' first|show Cn _;constructor|apply wC pk;rfl;rfl|apply wE pk;rfl;rfl|apply wD pk [] [];kernel_rfl;rfl;rfl|refine aB rfl ?_ ?_<;>intro h<;>(try simp at h)<;>try omega|(refine aC ?_;refine ⟨_,_,_,rfl,zwr _,zsr _, ?_,rfl⟩;try rfl)|(apply aH;rfl;rfl;rfl;(intro _;(first|apply lS|apply hc|apply hv|apply hp)<;>first|assumption|omega);rotate_left;rfl;rfl)|apply aP pk;(iterate 6 rfl);rotate_left;rfl;(intro hw;exact hj);(intro hw;apply aJ<;>omega);(intro _;rfl);rfl|apply kW pk;(iterate 4 rfl);(focus repeat' constructor);rfl;exact hlook;rfl)
 |true=>
  rw [zn (by simp)]
  refine aG aF Tryz.func152 (by kernel_rfl) rfl rfl rfl rfl (λst=> ?_)
  (try apply wO pk;rfl);(repeat' first|show Cn _;constructor|apply wC pk;rfl;rfl|apply wE pk;rfl;rfl|apply wD pk [] [];kernel_rfl;rfl;rfl|refine aB rfl ?_ ?_<;>intro h<;>(try simp at h)<;>try omega|(refine aC ?_;refine ⟨_,_,_,rfl,zwr _,zsr _, ?_,rfl⟩;try rfl)|(apply aH;rfl;rfl;rfl;(intro _;(first|apply lS|apply hc|apply hv|apply hp)<;>first|assumption|omega);rotate_left;rfl;rfl)|apply aP pk;(iterate 6 rfl);rotate_left;rfl;(intro hw;exact hj);(intro hw;apply aJ<;>omega);(intro _;rfl);rfl|apply kW pk;(iterate 4 rfl);(focus repeat' constructor);rfl;exact hlook;rfl)
theorem aiD (s:Sc) (o:Ot) (hs:s.length<1000000000000) (ht:∀t∈s,t.cols.length<1000000000000) (hr:∀t∈s,PF Tryz.prog 105 [.seq (t.cols.map Co.cells), .seq (o.row.map Vl.cells)] (.val (.int .i64 (eG t o.row)))):PF Tryz.prog 100 [.agg (scC s), .agg o.cells] (.val (.int .i64 (fN s o))):=by
 have w1:=dV o.kind 1 8
 have hsl:(s.map Tb.cells).length=s.length:=zql _
 have w2:=dV o.table 0 (((s.map Tb.cells).length:Nat)-1)
 unfold T.withinB at w1 w2
 unfold fN
 by_cases h0:o.kind<1\/o.kind>8
 ·rw [zp h0]
  have e:(decide (o.kind>=1)&&decide (o.kind<=8))=false:=by rw [<-Bool.not_eq_true];simp;omega
  rw [e] at w1
  refine aG aF Tryz.func100 (by kernel_rfl) rfl rfl rfl rfl (λst=> ?_)
  (try apply wO pk;rfl);(repeat' first|show Cn _;constructor|apply wC pk;rfl;rfl|apply wE pk;rfl;rfl|refine aB rfl ?_ ?_<;>intro h<;>(try simp at h)<;>try omega|(refine aC ?_;refine ⟨_,_,_,rfl,zwr _,zsr _, ?_,rfl⟩;try rfl)|(apply aH;rfl;rfl;rfl;(intro _;apply w1<;>first|assumption|omega);rotate_left;rfl;rfl))
 rw [zn h0]
 have e:(decide (o.kind>=1)&&decide (o.kind<=8))=true:=by simp;omega
 rw [e] at w1
 by_cases h1:o.table<0\/o.table>=s.length
 ·rw [zp h1]
  have e:(decide (o.table>=0)&&decide (o.table<=((s.map Tb.cells).length:Int)-1))=false:=by rw [<-Bool.not_eq_true,hsl];simp;omega
  rw [e] at w2
  refine aG aF Tryz.func100 (by kernel_rfl) rfl rfl rfl rfl (λst=> ?_)
  (try apply wO pk;rfl);(repeat' first|show Cn _;constructor|apply wC pk;rfl;rfl|apply wE pk;rfl;rfl|refine aB rfl ?_ ?_<;>intro h<;>(try simp at h)<;>try omega|(refine aC ?_;refine ⟨_,_,_,rfl,zwr _,zsr _, ?_,rfl⟩;try rfl)|(apply aH;rfl;rfl;rfl;(intro _;(first|apply w1|apply w2)<;>first|assumption|omega);rotate_left;rfl;rfl)|intros;(try simp only [zql]);omega)
 rw [zn h1]
 have e:(decide (o.table>=0)&&decide (o.table<=((s.map Tb.cells).length:Int)-1))=true:=by rw [hsl];simp;omega
 rw [e] at w2
 obtain ⟨k,hk⟩:∃k:Nat,o.table=k:=⟨o.table.toNat,by omega⟩
 have hkl:k<s.length:=by omega
 have hm:=zgm hkl
 rw [hk,Int.toNat_natCast,getElem!_pos s k hkl]
 have hi:=agR s[k] o (hr _ hm)
 by_cases h2:o.kind=1
 ·rw [zp h2]
  refine aG aF Tryz.func100 (by kernel_rfl) rfl rfl rfl rfl (λst=> ?_)
  (try apply wO pk;rfl);(repeat' first|show Cn _;constructor|apply wC pk;rfl;rfl|apply wE pk;rfl;rfl|apply wD pk [] [];kernel_rfl;rfl;rfl|refine aB rfl ?_ ?_<;>intro h<;>(try simp at h)<;>try omega|(refine aC ?_;refine ⟨_,_,_,rfl,zwr _,zsr _, ?_,rfl⟩;try rfl)|(apply aH;rfl;rfl;rfl;(intro _;(first|apply w1|apply w2|apply hi)<;>first|assumption|omega);rotate_left;rfl;rfl)|apply aP pk;(iterate 6 rfl);rotate_left;rfl;(intro hw;exact hk);(intro hw;apply aJ<;>omega);(intro _;rfl);rfl|intros;(try simp only [zql]);omega)
 rw [zn h2]
 have hkey:=mR o.key
 generalize anB o.key=K at*
 by_cases h3:o.row.length>0\/K=false
 ·rw [zp h3]
  refine aG aF Tryz.func100 (by kernel_rfl) rfl rfl rfl rfl (λst=> ?_)
  (try apply wO pk;rfl);(repeat' first|show Cn _;constructor|apply wC pk;rfl;rfl|apply wE pk;rfl;rfl|apply wD pk [] [];kernel_rfl;rfl;rfl|refine aB rfl ?_ ?_<;>intro h<;>(try simp at h)<;>try omega|(refine aC ?_;refine ⟨_,_,_,rfl,zwr _,zsr _, ?_,rfl⟩;try rfl)|(apply aH;rfl;rfl;rfl;(intro _;(first|apply w1|apply w2|apply hkey)<;>first|assumption|omega);rotate_left;rfl;rfl)|apply aP pk;(iterate 6 rfl);rotate_left;rfl;(intro hw;exact hk);(intro hw;apply aJ<;>omega);(intro _;rfl);rfl|intros;(try simp only [zql]);omega|(exfalso;grind))
 rw [zn h3]
 by_cases h8:o.kind≠8
 ·rw [zp h8]
  have hc:=anJ s[k] o (ht _ hm) (by omega)
  refine aG aF Tryz.func100 (by kernel_rfl) rfl rfl rfl rfl (λst=> ?_)
  (try apply wO pk;rfl);(repeat' first|show Cn _;constructor|apply wC pk;rfl;rfl|apply wE pk;rfl;rfl|apply wD pk [] [];kernel_rfl;rfl;rfl|refine aB rfl ?_ ?_<;>intro h<;>(try simp at h)<;>try omega|(refine aC ?_;refine ⟨_,_,_,rfl,zwr _,zsr _, ?_,rfl⟩;try rfl)|(apply aH;rfl;rfl;rfl;(intro _;(first|apply w1|apply w2|apply hkey|apply hc)<;>first|assumption|omega);rotate_left;rfl;rfl)|apply aP pk;(iterate 6 rfl);rotate_left;rfl;(intro hw;exact hk);(intro hw;apply aJ<;>omega);(intro _;rfl);rfl|intros;(try simp only [zql]);omega|(exfalso;grind))
 rw [zn h8]
 have hb:=zT o
 cases hB:rT o with
 |false=>
  rw [zp rfl]
  rw [hB] at hb
  refine aG aF Tryz.func100 (by kernel_rfl) rfl rfl rfl rfl (λst=> ?_)
  (try apply wO pk;rfl);(repeat' first|show Cn _;constructor|apply wC pk;rfl;rfl|apply wE pk;rfl;rfl|refine aB rfl ?_ ?_<;>intro h<;>(try simp at h)<;>try omega|(refine aC ?_;refine ⟨_,_,_,rfl,zwr _,zsr _, ?_,rfl⟩;try rfl)|(apply aH;rfl;rfl;rfl;(intro _;(first|apply w1|apply w2|apply hkey|apply hb)<;>first|assumption|omega);rotate_left;rfl;rfl)|intros;(try simp only [zql]);omega)
 |true=>
  rw [zn (by simp)]
  rw [hB] at hb
  refine aG aF Tryz.func100 (by kernel_rfl) rfl rfl rfl rfl (λst=> ?_)
  (try apply wO pk;rfl);(repeat' first|show Cn _;constructor|apply wC pk;rfl;rfl|apply wE pk;rfl;rfl|refine aB rfl ?_ ?_<;>intro h<;>(try simp at h)<;>try omega|(refine aC ?_;refine ⟨_,_,_,rfl,zwr _,zsr _, ?_,rfl⟩;try rfl)|(apply aH;rfl;rfl;rfl;(intro _;(first|apply w1|apply w2|apply hkey|apply hb)<;>first|assumption|omega);rotate_left;rfl;rfl)|intros;(try simp only [zql]);omega|(exfalso;grind))
end
end Go.Proofs.YtloecjjehapblaaGreatDoor
