import Derived.Test.YtnogfoojjaainaaGreatDoorClAb
import Derived.Test.YtnogfoojjaainaaGreatDoorAbsI
import Derived.Test.YtnogfoojjaainaaGreatDoorAbsG
import Derived.Test.YtnogfoojjaainaaGreatDoorAbsF
import Derived.Test.YtnogfoojjaainaaGreatDoorRows
import Derived.SizedLaws
import Derived.LaidMore
import Derived.LaidOnce
import Derived.LaidHandle
import Derived.Test.YtnogfoojjaainaaGreatDoorClAa
import Derived.Test.YtnogfoojjaainaaGreatDoorAbsE
import Derived.Test.YtnogfoojjaainaaGreatDoorAbsSort
import Derived.Sort.LotD5
set_option linter.unusedSimpArgs false
set_option linter.unusedVariables false
namespace Go.Proofs.YtnogfoojjaainaaGreatDoor
open Go Go.Abs
section
attribute [local irreducible] Ev PWp
set_option maxRecDepth 10000
set_option maxHeartbeats 4000000
section
variable{P:Program}{tt:TT}{l:List Oper}{d:Md}{r:List Oper}{s:St}{K:St->Prop}{t:Nat}{ty:TypeId}{pos:String}{after:Array Edge}
theorem aGJ{α:Type}{f:α->List PV}(pk:Pk P tt)(z0:α){T e:TypeId}{x y:Operand}{q u:IntKind}{n B sz:Nat}{z:List Value}{a b:Int}(hx:opd s x=some (.val (.int q a)))(hy:opd s y=some (.val (.int u b)))(hk:tiK tt T=some (.slice e))(hs:aN tt e=some sz)(hz:tiZ tt e=some z)(j:z.length=sz)(c:Nat.blt 0 sz=true)(i:z.map .val=f z0)(hf:bP s [x,y]=true)(hd:Nat.blt t s.n=true)(ht:iQ d l r=true)
  (ha:a=n) (h:b=n) (p:P.bytesOf e=B) (hb:n*B<=140737488355328) (g:n<4611686018427387904) (k:∀id,s.st id=none->Ev P l d r ((s.sst (upd s.st id (some (.arr e ((List.replicate n z0).map f))))).pv t (.vec id sz 0 n)) K):Ev P l d (⟨some t, .makeSlice T x y,ty,pos,after,none⟩::r) s K:=by
 subst ha h
 refine dX (tN pk.htt hx hy hk hs hz j (by simpa[Nat.blt_eq]using c) p hb g) (λz hz=>aK (λ_ _ _ e=>by cases e) hz) hf hd ht λv m=>?_
 obtain⟨id,o,rfl⟩:=m
 have:=k id o
 rw[List.map_replicate,<-i]at this
 exact this
end
theorem eQ{α:Type}{f:α->List PV}{id sz n:Nat}{l:List α}(hn:l.length=n):Fz id sz (l.map f) (.vec id sz 0 n) (.seq (l.map f)):=by
 have e:(l.map f).length=n:=(zql _).trans hn;rw[<-e];exact .all
theorem aLg{f:FuncId}{args:List PV}{st:aD}{R R':PV->aD->Prop}(h:PC Tryz.prog f args st R)(i:∀p st',R p st'->∃q,Wk p q/\R' q st'):PC Tryz.prog f args st R':=
 ⟨h.1,λw g vs hm hv=>(h.2 w g vs hm hv).mono λe w' ⟨v,r,st',g',a,b,c,h4⟩=>by
  obtain⟨q,k1,k2⟩:=i _ _ b
  exact⟨v,q,st',g',a,k2,k1 _ _ c,h4⟩⟩
theorem RepA.wk{g:G}{b:Nat}{ps qs:List PV}(h:WkL ps qs):∀{off:Nat},RepA g b off ps->RepA g b off qs:=by
 induction h with
 |nil=>exactλh=>h
 |cons h _ ih=>
  intro off e;simp only[RepA]at e⊢;obtain⟨⟨v,a,c,f⟩,i⟩:=e;exact⟨⟨v,a,c,h _ _ f⟩,ih i⟩
theorem aGS{ps qs:List PV}(h:WkL ps qs):ps.length=qs.length:=by
 induction h with
 |nil=>rfl
 |cons _ _ ih=>simp[ih]
theorem RepR.wk{α:Type}{f k:α->List PV}{g:G}{b sz:Nat}:∀{l:List α}(_:∀x∈l,WkL (f x) (k x)){off:Nat},RepR g b off sz (l.map f)->RepR g b off sz (l.map k)
 |[],_,_,e=>e
 |x::l,h,off,e=>by
  simp only[zmp,RepR]at e⊢
  exact⟨aGS (h x (by simp))▸e.1,RepA.wk (h x (by simp)) e.2.1,RepR.wk (λy hy=>h y (by simp[hy])) e.2.2⟩
theorem Wk.rows{α:Type}{f k:α->List PV}{l:List α}(h:∀x∈l,WkL (f x) (k x)):Wk (.seq (l.map f)) (.seq (l.map k)):=λg v e=>by
 unfold Rep at e⊢
 obtain⟨a,cap,c,i,j,h4⟩:=e
 rw[zql]at c i j
 refine⟨a,cap,by rw[zql];exact c,by rw[zql];exact i,by rw[zql];exact j,?_⟩
 rcases h4 with h4|⟨b,off,sz,m,n⟩
 ·exact .inl (by rw[List.map_eq_nil_iff]at h4⊢;exact h4)
 ·exact .inr ⟨b,off,sz,m,RepR.wk h n⟩
def adF(_:Unit):List PV:=[.val (.slice none 0 0)]
def aGo(s:Sc):Bs:=List.replicate s.length ⟨[]⟩
theorem aI4(n:Nat):Wk (.agg [.seq ((List.replicate n ()).map adF)]) (.agg (bsC (List.replicate n ⟨[]⟩))):=by
 refine Wk.agg (.cons ?_ .nil);have:=Wk.rows (f:=adF) (k:=λ_=>Da.cells ⟨[]⟩) (l:=List.replicate n ()) λ_ _=> .cons Wk.nil .nil;rwa[List.map_replicate (f:=λ_=>Da.cells ⟨[]⟩),<-List.map_replicate (f:=Da.cells)]at this
theorem aFs(s:Sc)(hl:s.length<2000000000000):PF Tryz.prog 41 [.agg (scC s)] (.agg (bsC (aGo s))):=λst=>
 aLg (fD (sz:=1) (R:=λr S=>∃id,r= .agg [.vec id 1 0 s.length]/\st id=none/\S=upd st id (some (.arr 101 ((List.replicate s.length ()).map adF)))) (R':=λr S=>r= .agg [.seq ((List.replicate s.length ()).map adF)]/\S=st) (by
  refine pC Tryz.func41 rfl ?_
  (repeat' first|show Cn (.r _ _ _);refine .rr ?_;(exact⟨id,rfl,a,rfl⟩);done|apply wZ;rfl|show Cn _;constructor|apply aGJ pk () (f:=adF) (n:=s.length) (B:=24);(iterate 11 rfl);(focus(simp;done));(focus(simp;done));exact ajV;omega;omega;intro id a)) λp st' h=>by
  obtain⟨id,rfl,b,rfl⟩:=h
  exact .inl ⟨id,101,(List.replicate s.length ()).map adF,_,st,aA _ _ _,akB, .agg (.cons (eQ (by simp)) .nil),bU b,rfl,rfl⟩) λp st' h=>⟨_,h.1▸aI4 _,rfl,h.2⟩
variable(sh:Cl->Vl)
def aDG(c:Cl):Prop:=PF Tryz.prog 78 [.agg c.cells] (.agg (sh c).cells)
theorem aIR(l:Ln)(hl:l.cells_.length<1000000000000)(hs:∀c∈l.cells_,aDG sh c)(st:aD):PC Tryz.prog 70 [.agg l.cells] st λr S=>∃id,r= .vec id 3 0 l.cells_.length/\st id=none/\S=upd st id (some (.arr 60 ((l.cells_.map sh).map Vl.cells))):=by
 refine pC Tryz.func70 rfl ?_
 repeat' first|apply wZ;rfl|show Cn _;constructor
 refine eC 3 60 3 rfl rfl rfl λid a=>?_;refine aC (X:={x:Nat×Nat//x.1<=l.cells_.length/\st x.2=none}) (λi=>(((((St.nil 20 (upd st i.1.2 (some (.arr 60 (((l.cells_.map sh).take i.1.1).map Vl.cells))))).pv 3 (.vec i.1.2 3 0 i.1.1)).pv 7 (.seq (l.cells_.map Cl.cells))).pv 8 (vi ((l.cells_.map Cl.cells).length:Nat))).pv 9 (vi (i.1.1:Nat)))) (λi=>l.cells_.length-i.1.1) ⟨(0,id),by simp,a⟩ ?_ λi=>?_
 ·dsimp only
  repeat' first|show Cn (.t _ _);exact Cn.t0|show Cn _;constructor|exact rfl
 obtain⟨⟨i,id⟩,hi,a⟩:=i;simp only at hi a;dsimp only;by_cases k:l.cells_.length<=i
 ·have e:(l.cells_.map sh).take i=l.cells_.map sh:=ztl (by simp;omega)
  obtain rfl:i=l.cells_.length:=by omega
  repeat' first|show Cn (.r _ _ _);refine .rr ?_;(exact⟨id,rfl,a,by rw[e];rfl⟩);done|apply wZ;rfl|show Cn _;constructor|simp only[zql];omega|intro h;simp at h
 have j:i<l.cells_.length:=by omega
 have hc:PF Tryz.prog 78 [.agg l.cells_[i].cells] (.agg (sh l.cells_[i]).cells):=hs _ (zgm j);have e:(l.cells_.map sh).take (i+1)=(l.cells_.map sh).take i++[sh l.cells_[i]]:=by rw[List.take_succ_eq_append_getElem (by simpa using j)];simp
 repeat' first|refine⟨⟨(i+1,g),by simp only;omega,cG b⟩,?_,?_⟩;(dsimp only;try rw[e])|show Cn (.t _ _);exact .any (bI ‹_›)|apply wZ;rfl|show Cn _;constructor|exact rfl|apply hc|apply apV pk (f:=Vl.cells) [sh l.cells_[i]] 32;(iterate 9 rfl);(exact aA _ _ _);(focus(simp;omega));exactλ_=>rfl;exactλ_=>rfl;exact amD;(focus(simp;omega));(focus(simp;omega));rfl;intro g b|apply wY;rfl|apply wI;rfl|apply gE;omega|omega|simp only[zql];omega|intro h;simp at h
theorem aEI(l:Ln)(hl:l.cells_.length<1000000000000)(hs:∀c∈l.cells_,aDG sh c):PF Tryz.prog 70 [.agg l.cells] (.seq ((l.cells_.map sh).map Vl.cells)):=λst=>
 fD (sz:=3) (aIR sh l hl hs st) λp st' h=>by
  obtain⟨id,rfl,a,rfl⟩:=h
  exact .inl ⟨id,60,(l.cells_.map sh).map Vl.cells,_,st,aA _ _ _,sK,eQ (by simp),bU a,rfl,rfl⟩
def roC(r:List Vl):List PV:=[.seq (r.map Vl.cells)]
theorem awW :Tryz.prog.bytesOf 67=24:=by kernel_rfl
theorem amU :Tryz.prog.cellsOf 67=1:=by kernel_rfl
def agD(l:Ln):List Vl:=l.cells_.map sh
theorem aCs(b:Bs)(k:Nat)(hk:k<b.length)(hl:b[k].lines.length<1000000000000)(hs:∀l∈b[k].lines,l.cells_.length<1000000000000/\∀c∈l.cells_,aDG sh c)(st:aD):PC Tryz.prog 37 [.agg (bsC b),vi (k:Nat)] st λr S=>∃id,r= .vec id 1 0 b[k].lines.length/\st id=none/\S=upd st id (some (.arr 67 ((b[k].lines.map (agD sh)).map roC))):=by
 have ho:=aeN b k hk;generalize b[k].lines=L at*;refine pC Tryz.func37 rfl ?_
 repeat' first|apply wZ;rfl|show Cn _;constructor|apply ho|apply wY;rfl
 refine eC 7 67 1 rfl rfl rfl λid a=>?_;refine aC (X:={x:Nat×Nat//x.1<=L.length/\st x.2=none}) (λi=>(((((St.nil 30 (upd st i.1.2 (some (.arr 67 (((L.map (agD sh)).take i.1.1).map roC))))).pv 7 (.vec i.1.2 1 0 i.1.1)).pv 17 (.seq (L.map Ln.cells))).pv 18 (vi ((L.map Ln.cells).length:Nat))).pv 19 (vi (i.1.1:Nat)))) (λi=>L.length-i.1.1) ⟨(0,id),by simp,a⟩ ?_ λi=>?_
 ·dsimp only
  repeat' first|show Cn (.t _ _);exact Cn.t0|show Cn _;constructor|exact rfl
 obtain⟨⟨i,id⟩,hi,a⟩:=i;simp only at hi a;dsimp only;by_cases n:L.length<=i
 ·have e:(L.map (agD sh)).take i=L.map (agD sh):=ztl (by simp;omega)
  obtain rfl:i=L.length:=by omega
  repeat' first|show Cn (.r _ _ _);refine .rr ?_;(exact⟨id,rfl,a,by rw[e];rfl⟩);done|apply wZ;rfl|show Cn _;constructor|simp only[zql];omega|intro h;simp at h
 have j:i<L.length:=by omega
 have hc:=aEI sh L[i] (hs _ (zgm j)).1 (hs _ (zgm j)).2;have e:(L.map (agD sh)).take (i+1)=(L.map (agD sh)).take i++[L[i].cells_.map sh]:=by rw[List.take_succ_eq_append_getElem (by simpa using j)];simp[agD]
 repeat' first|refine⟨⟨(i+1,m),by simp only;omega,cG g⟩,?_,?_⟩;(dsimp only;try rw[e])|show Cn (.t _ _);exact .any (bI ‹_›)|apply wZ;rfl|show Cn _;constructor|exact rfl|apply hc|apply apV pk (f:=roC) [L[i].cells_.map sh] 24;(iterate 9 rfl);(exact aA _ _ _);(focus(simp;omega));exactλ_=>rfl;exactλ_=>rfl;exact awW;(focus(simp;omega));(focus(simp;omega));rfl;intro m g|apply wY;rfl|apply wI;rfl|apply gE;omega|omega|simp only[zql];omega|intro h;simp at h
theorem atK(b:Bs)(k:Nat)(hk:k<b.length)(hl:b[k].lines.length<1000000000000)(hs:∀l∈b[k].lines,l.cells_.length<1000000000000/\∀c∈l.cells_,aDG sh c):PF Tryz.prog 37 [.agg (bsC b),vi (k:Nat)] (.seq ((b[k].lines.map (agD sh)).map roC)):=λst=>
 fD (sz:=1) (aCs sh b k hk hl hs st) λp st' h=>by
  obtain⟨id,rfl,a,rfl⟩:=h
  exact .inl ⟨id,67,(b[k].lines.map (agD sh)).map roC,_,st,aA _ _ _,amU,eQ (by simp),bU a,rfl,rfl⟩
end
section
attribute [local irreducible] Ev PWp
set_option maxRecDepth 10000
set_option maxHeartbeats 4000000
theorem asB(c:Cl)(h:c.kind=0):PF Tryz.prog 78 [.agg c.cells] (.agg c.val.cells):=by
 refine pF Tryz.func78 rfl λst=>?_
 repeat' first|apply wZ;rfl|show Cn _;constructor|exact rfl|omega|intro h
def colId :Co:=⟨⟨#[105,100]⟩,0,1,false⟩
def agL(b:Bs)(k:Int)(a:List Ln):Bs:=if okT b k then b.set k.toNat ⟨a⟩else b
theorem qW(b:Bs)(k:Int)(a:List Ln):(agL b k a).length=b.length:=by unfold agL;split<;>simp
theorem azF{b:Bs}{k:Int}{a:List Ln}{i:Nat}(h:i<b.length)(hk:(i:Int)=k):(agL b k a)[i]'(by rw[qW];exact h)=⟨a⟩:=by
 subst hk;simp[agL,okT,h]
theorem aHc{b:Bs}{k:Int}{a:List Ln}{i:Nat}(h:i<b.length)(hk:¬(i:Int)=k):(agL b k a)[i]'(by rw[qW];exact h)=b[i]:=by
 unfold agL;split
 ·rename_i q
  simp only[okT,zba,zde]at q;rw[List.getElem_set_ne (by omega)]
 ·rfl
end
section
set_option maxRecDepth 10000
set_option maxHeartbeats 4000000
theorem acT(L:List Ln)(k:Int):(∃j:Nat,∃h:j<L.length,atP L k=((j:Int),true)/\cB L k=some L[j]/\L[j].key=k/\∀q (hq:q<j),L[q].key≠k)\/
  (∃j:Nat,j<=L.length/\atP L k=((j:Int),false)/\cB L k=none/\(∀x∈L,x.key≠k)/\(∀q (hq:q<j) (h:q<L.length),¬L[q].key>k)/\∀h:j<L.length,L[j].key>k):=by
 unfold atP cB
 cases h:L.findIdx? λx:Ln=>decide (x.key=k)with
 |some j=>
  left;obtain⟨hj,hf,hn⟩:=List.findIdx?_eq_some_iff_getElem.1 h;refine⟨j,hj,?_,ayV hj hf λq hq a=>by simpa using hn q hq,by simpa using hf,λq hq=>by simpa using hn q hq⟩;have e:cY (λx:Ln=>decide (x.key=k)) L=j:=by unfold cY;rw[h]
  rw[e,zp (by omega)]
 |none=>
  right;have e:cY (λx:Ln=>decide (x.key=k)) L= -1:=by unfold cY;rw[h]
  have b:∀x∈L,x.key≠k:=λx hx=>by simpa using List.findIdx?_eq_none_iff.1 h x hx
  have hg:L.find? (λx:Ln=>decide (x.key=k))=none:=List.find?_eq_none.2 λx hx=>by rw[List.findIdx?_eq_none_iff.1 h x hx];simp
  rw[e,zn (by omega)];cases a:L.findIdx? λx:Ln=>decide (x.key>k)with
  |some j=>
   obtain⟨hj,hf,hn⟩:=List.findIdx?_eq_some_iff_getElem.1 a;have c:cY (λx:Ln=>decide (x.key>k)) L=j:=by unfold cY;rw[a]
   rw[c,zp (by omega)];exact⟨j,by omega,rfl,hg,b,λq hq hl=>by simpa using hn q hq,λ_=>by simpa using hf⟩
  |none=>
   have c:cY (λx:Ln=>decide (x.key>k)) L= -1:=by unfold cY;rw[a]
   rw[c,zn (by omega)];exact⟨L.length,Nat.le_refl _,rfl,hg,b,λq hq hl=>by simpa using List.findIdx?_eq_none_iff.1 a L[q] (zgm hl),λh=>absurd h (Nat.lt_irrefl _)⟩
theorem avH{L:List Ln}{j:Nat}{a:Ln}(h:j<=L.length):(eD L j [a]).length=L.length+1:=by rw[aaA h];rfl
end
section
attribute [local irreducible] Ev PWp
set_option maxRecDepth 10000
set_option maxHeartbeats 4000000
theorem aE8{L:List Dt}{d:Dt}{q:Nat}(h:q<gC L d)(hq:q<L.length):aW L[q] d=false:=by
 unfold gC at h;cases e:L.findIdx? λx=>aW x d with
 |none=>exact List.findIdx?_eq_none_iff.1 e _ (zgm hq)
 |some j=>rw[e]at h;simpa using(List.findIdx?_eq_some_iff_getElem.1 e).2.2 q h
theorem aDK{L:List Dt}{d:Dt}{j:Nat}(hd:gC L d=j)(hq:j<L.length):aW L[j] d=true:=by
 unfold gC at hd;cases e:L.findIdx? λx=>aW x d with
 |none=>rw[e]at hd;simp at hd;omega
 |some q=>rw[e]at hd;simp at hd;subst hd;exact(List.findIdx?_eq_some_iff_getElem.1 e).2.1
theorem atB{st:aD}{id id2:Nat}{o b c:Option AObj}(a:st id=none)(hb:b=c):StSub (upd st id2 b) (upd (upd (upd st id o) id none) id2 c):=hb▸kX a
end
section
attribute [local irreducible] Ev PWp
set_option maxRecDepth 10000
set_option maxHeartbeats 4000000
section
variable{P:Program}{tt:TT}{l:List Oper}{d:Md}{r:List Oper}{s:St}{K:St->Prop}{t:Nat}{ty:TypeId}{pos:String}{after:Array Edge}
theorem aKy{T T2:TypeId}{x y:Operand}{a b:Int}(hx:opd s x=some (.val (.int .i64 a)))(hy:opd s y=some (.val (.int .i64 b)))(hf:bP s [x,y]=true)(hd:Nat.blt t s.n=true)(ht:cO d l r=true)(k:∀c,Ev P l d r (s.put (some t) true (.pv (.val (.int .i64 c)))) K):Ev P l d (⟨some t, .binOp .add T x y T2,ty,pos,after,none⟩::r) s K:=
 kY (c:=IntKind.i64.wrap (a+b)) rfl hx hy (λ_=> .inl ⟨rfl,rfl⟩) (by simp only[bP,zba]at hf;exact⟨λ_=>hf.1,λ_=>hf.2.1,trivial⟩) hd ht (k _)
end
def tot(b:Bs):Nat:=(b.map λd=>d.lines.length).sum
theorem aDm{b:Bs}{i:Nat}(h:i<b.length):tot (b.take (i+1))=tot (b.take i)+b[i].lines.length:=by
 unfold tot;rw[List.take_succ_eq_append_getElem h,List.map_append,List.sum_append];simp
theorem aJe(b:Bs)(i:Nat):tot (b.take i)<=tot b:=by
 have:tot b=tot (b.take i)+tot (b.drop i):=by
  unfold tot;rw[<-List.sum_append,<-List.map_append,List.take_append_drop]
 omega
def xL(b:Bs):Bool:=decide (b.length<=20)&&(decide (tot b<=100)&&b.all λd=>d.lines.all fR)
theorem aJI{b:Bs}{i y:Nat}(hi:i<b.length)(hy:y<b[i].lines.length)(h:fR b[i].lines[y]=false):xL b=false:=by
 unfold xL;have:(b.all λd=>d.lines.all fR)=false:=by
  rw[<-Bool.not_eq_true,zal];intro q;have:=zal.1 (q _ (zgm hi)) _ (zgm hy);rw[h]at this;cases this
 rw[this];simp
theorem aCV(b:Bs)(hb:b.length<200000000000000)(hd:∀d∈b,d.lines.length<200000000000000/\∀l∈d.lines,l.cells_.length<4611686018427387904):PF Tryz.prog 14 [.agg (bsC b)] (vb (xL b)):=by
 by_cases g:¬b.length<=20
 ·have o:xL b=false:=by unfold xL;rw[decide_eq_false g];rfl
  rw[o];refine pF Tryz.func14 rfl λst=>?_
  focus(repeat' first|apply wZ;rfl|show Cn _;constructor)
  refine aC (X:={x:Nat×Int//x.1<=b.length}) (λi=>((((St.nil 56 st).var 1 27 (bsC b)).pv 3 (vi i.1.2)).pv 4 (vi (i.1.1:Nat)))) (λi=>b.length-i.1.1) ⟨(0,0),by simp⟩ ?_ λi=>?_
  ·repeat' first|show Cn _;constructor|exact rfl
  obtain⟨⟨i,n⟩,hi⟩:=i;simp only at hi;dsimp only;by_cases f:b.length<=i;rotate_left;have a:i<b.length:=by omega
  have J:=(hd _ (zgm a)).1
  focus(repeat' first|((iterate 3 (apply mV aS;(iterate 4 rfl)));apply aKy;(iterate 5 rfl);intro n')|apply wZ;rfl|show Cn _;constructor|exact rfl|apply wI;rfl|apply gE;omega|simp only[zql];omega|intro h;simp at h)
  refine aC (X:={x:Nat//x<=b[i].lines.length}) (λy=>(((((St.nil 56 st).var 1 27 (bsC b)).pv 3 (vi n')).pv 4 (vi (i:Nat))).pv 5 (vi (y.1:Nat)))) (λy=>b[i].lines.length-y.1) ⟨0,by omega⟩ ?_ λy=>?_
  ·repeat' first|show Cn _;constructor|exact rfl
  obtain⟨y,hy⟩:=y;dsimp only;by_cases k:b[i].lines.length<=y;rotate_left;have c:y<b[i].lines.length:=by omega
  have hs:=afV b[i].lines[y] ((hd _ (zgm a)).2 _ (zgm c));rotate_left
  all_goals (repeat' first|((first|refine⟨⟨(i+1,n'),by simp only;omega⟩,?_,by simp only;omega⟩|refine⟨⟨y+1,by omega⟩,?_,by simp only;omega⟩);focus((repeat' first|show Cn _;constructor|exact rfl);done))|apply wZ;rfl|show Cn _;constructor|exact rfl|apply hs|show(_:PV)=_;(rw[zql,decide_eq_false (by omega)];rfl);done|apply wY;rfl|apply wI;rfl|apply gE;omega|omega|simp only[zql];omega|intro h;simp at h;omega|intro h;simp at h|intro h)
 replace g:=zdn g
 refine pF Tryz.func14 rfl λst=>?_
 focus(repeat' first|apply wZ;rfl|show Cn _;constructor)
 refine aC (X:={x:Nat×Nat//x.1<=b.length/\x.2=tot (b.take x.1)/\x.2<=x.1*200000000000000/\(x.2<=100->∀j (h:j<b.length),j<x.1->∀l∈b[j].lines,fR l=true)}) (λi=>((((St.nil 56 st).var 1 27 (bsC b)).pv 3 (vi (i.1.2:Nat))).pv 4 (vi (i.1.1:Nat)))) (λi=>b.length-i.1.1) ⟨(0,0),by simp,rfl,by simp,by simp⟩ ?_ λi=>?_
 ·repeat' first|show Cn _;constructor|exact rfl
 obtain⟨⟨i,n⟩,hi,hn,w,u⟩:=i;simp only at hi hn w u;dsimp only;by_cases f:b.length<=i;have e:decide ((n:Int)<=100)=(decide (tot b<=100)&&b.all λd=>d.lines.all fR):=by
  rw[ztl f]at hn;subst hn;by_cases q:tot b<=100
  ·rw[decide_eq_true (by omega),decide_eq_true q,Bool.true_and,eq_comm,zal]
   intro d B;obtain⟨j,hj,rfl⟩:=zgo B;rw[zal];exact u q j hj (by omega)
  ·rw[decide_eq_false (by omega),decide_eq_false q];rfl
 have I:decide ((b.length:Int)<=20)=decide (b.length<=20):=by rw[decide_eq_decide];omega
 rotate_left;have a:i<b.length:=by omega
 obtain⟨L,H⟩:=hd _ (zgm a);have ht:=aDm a;have o:=λy h=>aJI (y:=y) a h
 focus(repeat' first|apply wZ;rfl|show Cn _;constructor|exact rfl|apply wI;rfl|apply gE;omega|simp only[zql];omega|intro h;simp at h)
 refine aC (X:={x:Nat//x<=b[i].lines.length/\(n+b[i].lines.length<=100->∀j (h:j<b[i].lines.length),j<x->fR b[i].lines[j]=true)}) (λy=>(((((St.nil 56 st).var 1 27 (bsC b)).pv 3 (vi ((n+b[i].lines.length:Nat):Int))).pv 4 (vi (i:Nat))).pv 5 (vi (y.1:Nat)))) (λy=>b[i].lines.length-y.1) ⟨0,by omega,by omega⟩ ?_ λy=>?_
 ·repeat' first|show Cn _;constructor|exact rfl|congr 2;rw[zql];omega
 obtain⟨y,hy,m⟩:=y;dsimp only;have F:¬(y<b[i].lines.length/\n+b[i].lines.length<=100)->(n+b[i].lines.length<=100->∀j (h:j<b.length),j<i+1->∀l∈b[j].lines,fR l=true):=λh q j hj C l hl=>by
  rcases zls.1 C with r|r
  ·exact u (by omega) j hj r l hl
  ·subst r
   obtain⟨z,hz,rfl⟩:=zgo hl;exact m q z hz (by omega)
 have E:n+b[i].lines.length=tot (b.take (i+1)):=by omega
 by_cases k:b[i].lines.length<=y;rotate_left;have c:y<b[i].lines.length:=by omega
 have hs:=afV b[i].lines[y] (H _ (zgm c));have p:=o y c;have v:fR b[i].lines[y]=true->(n+b[i].lines.length<=100->∀j (h:j<b[i].lines.length),j<y+1->fR b[i].lines[j]=true):=λh q j hj D=>by
  rcases zls.1 D with r|r
  ·exact m q j hj r
  ·subst r;exact h
 generalize M:fR b[i].lines[y]=G at*;cases G
 rotate_left;rotate_left
 all_goals (repeat' first|((first|refine⟨⟨(i+1,n+b[i].lines.length),by simp only;omega,E,by simp only;omega,F (by omega)⟩,?_,by simp only;omega⟩|refine⟨⟨y+1,by omega,v rfl⟩,?_,by simp only;omega⟩);focus((repeat' first|show Cn _;constructor|exact rfl);done))|apply wZ;rfl|show Cn _;constructor|exact rfl|apply hs|show(_:PV)=_;(first|(rw[zql];unfold xL;rw[<-e,<-I]);done|(rw[p rfl]);done);done|apply wY;rfl|apply wI;rfl|apply gE;omega|omega|simp only[zql];omega|intro h;simp at h;omega|intro h;simp at h)
end
section
attribute [local irreducible] Ev PWp
set_option maxRecDepth 10000
set_option maxHeartbeats 4000000
def LnS(l:Ln):Prop:=l.by_.length<=1000/\l.cells_.length<=1000/\∀c∈l.cells_,c.parts.length<=1000
def BsS(n:Nat)(b:Bs):Prop:=b.length<=20/\∀d∈b,d.lines.length<=n/\∀l∈d.lines,LnS l
theorem aHA{l:Ln}(h:fR l=true):LnS l:=by
 unfold fR at h;simp only[zba,zde,zal,mT]at h;exact⟨by omega,by omega,λc hc=>by have:=(h.1 c hc).1;omega⟩
theorem aH3{b:Bs}(h:xL b=true):BsS 100 b:=by
 unfold xL at h;simp only[zba,zde,zal]at h;obtain⟨a,g,c⟩:=h;refine⟨a,λd hd=>⟨?_,λl hl=>aHA (c d hd l hl)⟩⟩;obtain⟨j,hj,rfl⟩:=zgo hd;have e:=aDm hj;have f:=aJe b (j+1);omega
theorem BsS.lines{n:Nat}{b:Bs}(h:BsS n b)(k:Int):(aF b k).length<=n/\∀l∈aF b k,LnS l:=by
 unfold aF;split
 ·rename_i q
  simp only[okT,zba,zde]at q;have hk:k.toNat<b.length:=by omega
  rw[getElem!_pos b k.toNat hk];exact h.2 _ (zgm hk)
 ·exact⟨Nat.zero_le _,λl hl=>by cases hl⟩
theorem amK(L:List Ln)(a:Ln):(qN L a).length<=L.length+1:=by
 unfold qN;split
 ·simp
 ·obtain⟨j,hj,e,_⟩:=amM L a.key
  rw[e,Int.toNat_natCast,avH hj];exact Nat.le_refl _
theorem BsS.p{n:Nat}{b:Bs}(h:BsS n b)(hn:n<=1000):∀d∈b,d.lines.length<1000000000000/\∀x∈d.lines,x.by_.length<1000000000000/\x.cells_.length<1000000000000/\∀c∈x.cells_,c.parts.length<1000000000000:=λd hd=>by
 obtain⟨f,a⟩:=h.2 d hd
 refine⟨by omega,λx hx=>?_⟩
 obtain⟨g,i,e⟩:=a x hx
 exact⟨by omega,by omega,λc hc=>by have:=e c hc;omega⟩
theorem BsS.l{n:Nat}{b:Bs}(h:BsS n b)(hn:n<=1000):b.length<100000000000/\∀d∈b,d.lines.length<100000000000:=⟨by have:=h.1;omega,λd hd=>by have:=(h.2 d hd).1;omega⟩
def BsB(b:Bs):Prop:=b.length<200000000000000/\∀d∈b,d.lines.length<200000000000000/\∀l∈d.lines,l.cells_.length<4611686018427387904
end
end Go.Proofs.YtnogfoojjaainaaGreatDoor
namespace Go.Proofs.YtnogfoojjaainaaGreatDoor
open Go Go.Abs Go.ChangeShapes Go.WideShapes Go.ChangeAt Go.RowKit
set_option maxRecDepth 10000
theorem own :ownKnob Tryz.prog.godebug=none:=by kernel_rfl
theorem laid :laidOutB Tryz.prog=true:=by kernel_rfl
theorem full(t e:TypeId)(h:t<Tryz.prog.types.size)(hu:Tryz.prog.underlying t=some (.slice e)):0<Tryz.prog.cellsOf e:=
 of_decide_eq_true (ahO (λ_ e=>decide (0<Tryz.prog.cellsOf e)) (by kernel_rfl) t e h hu)
theorem aK2(t e:TypeId)(h:t<Tryz.prog.types.size)(hu:Tryz.prog.underlying t=some (.slice e)):1<=Tryz.prog.bytesOf e:=
 of_decide_eq_true (ahO (λ_ e=>decide (1<=Tryz.prog.bytesOf e)) (by kernel_rfl) t e h hu)
theorem zY{α:Type}{f:α->List PV}{Q:α->Prop}{rows:List (List PV)}(h:∀r∈rows,∃a,r=f a/\Q a):∃l:List α,rows=l.map f/\l.length=rows.length/\∀a∈l,Q a:=by
 obtain⟨l,rfl,hl⟩:=aDZ h;exact⟨l,rfl,by simp,hl⟩
section
theorem aoR{N n:Nat}{ps:List PV}(h:bQ Tryz.prog N n 60 ps):∃v:Vl,ps=v.cells:=by
 obtain⟨m,f,_,rfl,e⟩:=cA aS rfl h;cases e with|cons ha e=>cases e with|cons hb e=>cases e with|cons hc e=>cases e with|nil=>
 obtain⟨a,rfl,_⟩:=bO aS rfl ha;obtain⟨b,rfl,_⟩:=bO aS rfl hb;obtain⟨c,rfl,_⟩:=zM aS rfl hc;exact⟨⟨a,b,c⟩,rfl⟩
theorem axE{N n:Nat}{ps:List PV}(h:bQ Tryz.prog N n 69 ps):∃v:Dt,ps=v.cells:=by
 obtain⟨m,e,_,rfl,c⟩:=cA aS rfl h;cases c with|cons ha c=>cases c with|cons hb c=>cases c with|nil=>
 obtain⟨a,rfl,_⟩:=bO aS rfl ha;obtain⟨b,rfl,_⟩:=bO aS rfl hb;exact⟨⟨a,b⟩,rfl⟩
theorem aKu{N n:Nat}{ps:List PV}(h:bQ Tryz.prog N n 177 ps):∃v:Pt,ps=v.cells:=by
 obtain⟨m,j,_,rfl,i⟩:=cA aS rfl h;cases i with|cons ha i=>cases i with|cons hb i=>cases i with|cons hc i=>cases i with|cons hd i=>cases i with|cons he i=>cases i with|cons hf i=>cases i with|cons hg i=>cases i with|nil=>
 obtain⟨a,rfl⟩:=aoR ha;obtain⟨b,rfl⟩:=axE hb;obtain⟨c,rfl,_⟩:=bO aS rfl hc;obtain⟨d,rfl,_⟩:=bO aS rfl hd;obtain⟨e,rfl⟩:=axE he;obtain⟨f,rfl,_⟩:=bO aS rfl hf;obtain⟨g,rfl⟩:=aeR aS rfl hg;exact⟨⟨a,b,c,d,e,f,g⟩,rfl⟩
def CB(c:Cl):Prop:=c.parts.length<=reachBytes
theorem aKN{n:Nat}{ps:List PV}(h:bQ Tryz.prog reachBytes n 116 ps):∃v:Cl,ps=v.cells/\CB v:=by
 obtain⟨m,j,_,rfl,e⟩:=cA aS rfl h;cases e with|cons ha e=>cases e with|cons hb e=>cases e with|cons hc e=>cases e with|nil=>
 obtain⟨a,rfl,_⟩:=bO aS rfl ha;obtain⟨b,rfl⟩:=aoR hb;obtain⟨_,rows,_,rfl,hl,i⟩:=cI aS rfl hc;obtain⟨c,rfl⟩:=sS (f:=Pt.cells) λr g=>aKu (i r g);exact⟨⟨a,b,c⟩,rfl,by show c.length<=_;simpa using hl⟩
def LB(l:Ln):Prop:=l.cells_.length<=reachBytes/\l.by_.length<=reachBytes/\∀c∈l.cells_,CB c
theorem aJ9{n:Nat}{ps:List PV}(h:bQ Tryz.prog reachBytes n 106 ps):∃v:Ln,ps=v.cells/\LB v:=by
 obtain⟨m,q,_,rfl,e⟩:=cA aS rfl h;cases e with|cons ha e=>cases e with|cons hb e=>cases e with|cons hc e=>cases e with|nil=>
 obtain⟨a,rfl,_⟩:=bO aS rfl ha;obtain⟨_,rows,_,rfl,hl,p⟩:=cI aS rfl hb;obtain⟨b,rfl,o,hq⟩:=zY λr g=>aKN (p r g);obtain⟨_,k,_,rfl,i,j⟩:=cI aS rfl hc;obtain⟨c,rfl⟩:=sS (f:=Dt.cells) λr g=>axE (j r g);exact⟨⟨a,b,c⟩,rfl,by simpa using hl,by simpa using i,hq⟩
def DB(d:Da):Prop:=d.lines.length<=reachBytes/\∀l∈d.lines,LB l
theorem aKn{n:Nat}{ps:List PV}(h:bQ Tryz.prog reachBytes n 101 ps):∃v:Da,ps=v.cells/\DB v:=by
 obtain⟨m,g,_,rfl,a⟩:=cA aS rfl h;cases a with|cons hb a=>cases a with|nil=>
 obtain⟨_,rows,_,rfl,hl,f⟩:=cI aS rfl hb;obtain⟨b,rfl,e,hq⟩:=zY λr c=>aJ9 (f r c);exact⟨⟨b⟩,rfl,by simpa using hl,hq⟩
def BB(b:Bs):Prop:=b.length<=reachBytes/\∀d∈b,DB d
theorem aKU{n:Nat}{ps:List PV}(h:bQ Tryz.prog reachBytes n 27 ps):∃v:{b:Bs//BB b},ps=bsC v.1:=by
 obtain⟨m,g,_,rfl,a⟩:=cA aS rfl h;cases a with|cons hb a=>cases a with|nil=>
 obtain⟨_,rows,_,rfl,hl,f⟩:=cI aS rfl hb;obtain⟨b,rfl,e,hq⟩:=zY λr c=>aKn (f r c);exact⟨⟨b,by simpa using hl,hq⟩,rfl⟩
theorem LB.c{l:Ln}(h:LB l):l.cells_.length<4611686018427387904:=Nat.lt_of_le_of_lt h.1 (by decide)
theorem BB.b{b:Bs}(h:BB b):BsB b:=⟨Nat.lt_of_le_of_lt h.1 (by decide),λd hd=>⟨Nat.lt_of_le_of_lt (h.2 d hd).1 (by decide),λl hl=>((h.2 d hd).2 l hl).c⟩⟩
theorem avB{N:Nat}{t:TypeId}{p:PV}(ha:kC tt t=some true)(h:rQ Tryz.prog N t p):∃n cs,p= .agg cs/\bQ Tryz.prog N n t cs:=by
 obtain⟨n,⟨_,cs,a,b⟩|⟨a,_⟩⟩:=h
 ·exact⟨n,cs,a,b⟩
 ·rw[(cD aS ha).1]at a;cases a
theorem aEB{N:Nat}{t:TypeId}{p:PV}(ha:kC tt t=some false)(h:rQ Tryz.prog N t p):∃n,bQ Tryz.prog N n t [p]:=by
 obtain⟨n,⟨a,_⟩|⟨_,b⟩⟩:=h
 ·rw[(cD aS ha).1]at a;cases a
 ·exact⟨n,b⟩
end
end Go.Proofs.YtnogfoojjaainaaGreatDoor
namespace Go.Proofs.YtnogfoojjaainaaGreatDoor
open Go
set_option maxRecDepth 100000
noncomputable def wL(os:Os):World:={World.doorLaid Tryz.prog 19 os with heap:=(World.doorLaid Tryz.prog 19 os).heap.setIfInBounds 1 (.cells (Pinned.utf8FirstZ.map λn:Nat=>Value.int .u8 (n:Int)).toArray 374 (0,0))}
theorem aBo(os:Os)(args:Array Value):((wL os).forCall (λ_ _=>0) ⟨#[],args,[]⟩).Shaped Tryz.prog:=World.shaped_of_RefB (by kernel_rfl) (by kernel_rfl)
theorem aJG(os : Os)(args : Array Value) : laidMetH Tryz.prog [("unicode/utf8.acceptRanges",Rows.laid_unicode_utf8_acceptRanges),("unicode/utf8.first",Rows.laid_unicode_utf8_first)] ((wL os).forCall (λ_ _ => 0) ⟨#[],args,[]⟩).memory :=
  laidMetH_of_parts3 (fuel:=8) (laidMet_of_run' 8 (by kernel_rfl) (by kernel_rfl)) (by kernel_rfl) (by kernel_rfl)
end Go.Proofs.YtnogfoojjaainaaGreatDoor
namespace Go.Proofs.YtnogfoojjaainaaGreatDoor
open Go Go.Abs
set_option maxRecDepth 10000
set_option maxHeartbeats 4000000
theorem rG{a b c:Dt}(e:aW b a=true)(f:aW c b=true):aW c a=true:=by
 unfold aW at*;simp only[Bool.or_eq_true,zba,zde]at*;omega
theorem zO{a b:Dt}(h:aW a b=false)(c:a≠b):aW b a=true:=by
 rw[Ne,Dt.ext_iff]at c;unfold aW at*;simp only[Bool.or_eq_true,zba,zde,Bool.or_eq_false_iff,Bool.and_eq_false_iff,decide_eq_false_iff_not]at*;omega
def aAh(l:List Dt):Prop:=l.Pairwise λa b=>aW b a=true
def aBY(l:List Dt)(d:Dt):List Dt:=if d∈l then l else cH l (gC l d) [d]
theorem aD7(l:Ln)(d:Dt):dD l d={l with by_:=aBY l.by_ d}:=by
 unfold dD aBY;split<;>rfl
theorem aCG(l:List Dt)(d x:Dt):x∈aBY l d↔x=d\/x∈l:=by
 unfold aBY;split
 ·rename_i h
  exact⟨.inr,λq=>by rcases q with rfl|q<;>assumption⟩
 ·unfold cH
  have e:=List.take_append_drop (gC l d) l
  conv=>rhs;rw[<-e]
  simp only[zma,zms]
  grind
theorem aAQ{l:List Dt}(h:aAh l)(d:Dt):aAh (aBY l d):=by
 unfold aBY;split
 ·exact h
 rename_i hd;unfold cH aAh;have e:=List.take_append_drop (gC l d) l;have hp:=h;unfold aAh at hp;rw[<-e,List.pairwise_append]at hp;have b:∀x∈l.take (gC l d),aW d x=true:=λx hx=>by
  obtain⟨q,hq,rfl⟩:=zgo hx
  rw[zlt]at hq
  rw[List.getElem_take]
  exact zO (aE8 (by omega) (by omega)) λq=>hd (q▸zgm _)
 have a:∀x∈l.drop (gC l d),aW x d=true:=λx hx=>by
  obtain⟨q,hq,rfl⟩:=zgo hx
  rw[zld]at hq
  rw[List.getElem_drop]
  have h0:=aDK (L:=l) rfl (show gC l d<l.length by omega)
  rcases Nat.eq_zero_or_pos q with rfl|c
  ·exact h0
  ·exact rG h0 (List.pairwise_iff_getElem.1 h _ _ (by omega) (by omega) (by omega))
 rw[List.pairwise_append,List.pairwise_append];refine⟨⟨hp.1,List.pairwise_singleton ..,λx hx y hy=>?_⟩,hp.2.1,λx hx y hy=>?_⟩
 ·rw[zms.1 hy];exact b x hx
 ·rcases zma.1 hx with q|q
  ·exact hp.2.2 x q y hy
  ·rw[zms.1 q];exact a y hy
def upR(l:List Dt)(k:Nat):Bool:=decide (k=0)||aW l[k]! l[k-1]!
theorem aHJ{l:List Dt}(h:∀k<l.length,upR l k=true):aAh l:=by
 have key:∀j (hj:j<l.length) i (hi:i<j),aW l[j] (l[i]'(by omega))=true:=by
  intro j
  induction j with
  |zero=>intro _ i hi;exact absurd hi (Nat.not_lt_zero _)
  |succ j ih=>
   intro hj i hi;have:=h (j+1) hj;unfold upR at this;rw[getElem!_pos l (j+1) hj,show j+1-1=j from rfl,getElem!_pos l j (by omega)]at this;have this:aW l[j+1] l[j]=true:=by simpa using this
   rcases zls.1 hi with q|q
   ·exact rG (ih (by omega) i q) this
   ·subst q;exact this
 exact List.pairwise_iff_getElem.2 λi j hi hj a=>key j hj i a
end Go.Proofs.YtnogfoojjaainaaGreatDoor
namespace Go.Proofs.YtnogfoojjaainaaGreatDoor.T
open Go Go.Abs
section
set_option maxRecDepth 10000
set_option maxHeartbeats 4000000
structure Sp where
 time:Int
 dev:Int
 seq:Int
 deriving DecidableEq,Inhabited
def Sp.cells(a:Sp):List PV:=[.val (.int .i64 (a.time)), .val (.int .i64 (a.dev)), .val (.int .i64 (a.seq))]
def Sp.zero :Sp:=⟨0,0,0⟩
theorem Sp.ext_iff(a b:Sp):a=b↔a.time=b.time/\a.dev=b.dev/\a.seq=b.seq:=by cases a;cases b;simp
theorem Sp.eta(a:Sp):Sp.mk a.time a.dev a.seq=a:=rfl
theorem Sp.eqb(a b:Sp):(decide (a.time=b.time)&&(decide (a.dev=b.dev)&&(decide (a.seq=b.seq))))=decide (a=b):=by rw[Bool.eq_iff_iff];simp[Sp.ext_iff]
structure Nm where
 dot:Dt
 at_:Int
 deriving DecidableEq,Inhabited
def Nm.cells(a:Nm):List PV:=[.val (.int .i64 (a.dot.dev)), .val (.int .i64 (a.dot.seq)), .val (.int .i64 (a.at_))]
def Nm.zero :Nm:=⟨Dt.zero,0⟩
theorem Nm.ext_iff(a b:Nm):a=b↔a.dot=b.dot/\a.at_=b.at_:=by cases a;cases b;simp
theorem Nm.eta(a:Nm):Nm.mk a.dot a.at_=a:=rfl
theorem Nm.eqb(a b:Nm):(decide (a.dot=b.dot)&&(decide (a.at_=b.at_)))=decide (a=b):=by rw[Bool.eq_iff_iff];simp[Nm.ext_iff]
theorem Nm.eqz(a:Nm):(decide (a.dot=Dt.zero)&&(decide (a.at_=0)))=decide (a=Nm.zero):=by rw[Bool.eq_iff_iff];simp[Nm.ext_iff,Nm.zero]
end
section
attribute [local irreducible] Ev PWp
set_option maxRecDepth 10000
set_option maxHeartbeats 4000000
def aG(p:Pt):Nm:=⟨p.dot,p.at_⟩
def aH(p:Pt):Nm:=⟨p.after,p.afterAt⟩
def aM(p:Pt):Sp:=⟨p.time,p.dot.dev,p.dot.seq⟩
def withinB(n a b:Int):Bool:=decide (n>=a)&&decide (n<=b)
def mayN(n:Nm):Bool:=(withinB n.dot.dev 1 64&&withinB n.dot.seq 1 1048576)&&withinB n.at_ 0 1999
def bM(p:Pt):Bool:=((((decide (p.val.kind=1)&&decide (p.val.s=e0))&&withinB p.val.n 0 255)&&withinB p.time 1 1125899906842624)&&mayN (aG p))&&(decide (aH p=Nm.zero)||mayN (aH p))
def gM(a b:Sp):Bool:=if a.time≠b.time then decide (a.time<b.time)else if a.dev≠b.dev then decide (a.dev<b.dev)else decide (a.seq<b.seq)
def dK(p q:Pt):Bool:=gM (aM p) (aM q)||(decide (aM p=aM q)&&decide (p.at_<q.at_))
theorem oL(p:Pt):PF Tryz.prog 269 [.agg p.cells] (.agg (aG p).cells):=by
 refine pF Tryz.func269 rfl λst=>?_
 repeat' first|apply wZ;rfl|show Cn _;constructor|exact rfl
theorem rB(p:Pt):PF Tryz.prog 290 [.agg p.cells] (.agg (aH p).cells):=by
 refine pF Tryz.func290 rfl λst=>?_
 repeat' first|apply wZ;rfl|show Cn _;constructor|exact rfl
theorem lU(p:Pt):PF Tryz.prog 317 [.agg p.cells] (.agg (aM p).cells):=by
 refine pF Tryz.func317 rfl λst=>?_
 repeat' first|apply wZ;rfl|show Cn _;constructor|exact rfl
theorem rP(n a b:Int):PF Tryz.prog 313 [vi n,vi a,vi b] (vb (withinB n a b)):=by
 refine pF Tryz.func313 rfl λst=>?_
 repeat' first|apply wZ;rfl|show Cn _;constructor|exact rfl
theorem iI(n:Nm):PF Tryz.prog 314 [.agg n.cells] (vb (mayN n)):=by
 refine pF Tryz.func314 rfl λst=>?_
 repeat' first|apply wZ;rfl|show Cn _;constructor|exact rfl|apply rP|apply wY;rfl
theorem mI(p:Pt):PF Tryz.prog 289 [.agg p.cells] (vb (bM p)):=by
 refine pF Tryz.func289 rfl λst=>?_
 repeat' first|apply wZ;rfl|show Cn _;constructor|exact rfl|(first|apply rP|apply oL p|apply rB p|apply iI (aG p)|apply iI (aH p))|show(_:PV)=_;simp only[bM,Dt.eqz,Nm.eqz];done|apply wY;rfl
def aLm(a:Sp):List PV:=[vi a.time,vi a.dev,vi a.seq]
theorem nX(a:Sp):PF Tryz.prog 373 [.agg a.cells] (.agg (aLm a)):=by
 refine pF Tryz.func373 rfl λst=>?_
 repeat' first|apply wZ;rfl|show Cn _;constructor|exact rfl
def cmpL :List Int->List Int->Int
 |[],[]=>0
 |[],_::_=> -1
 |_::_,[]=>1
 |a::l,b::m=>if jE a b=0 then cmpL l m else jE a b
theorem ajI{l m:List Int}{i:Nat}(h:i<l.length)(a:i<m.length):cmpL (l.drop i) (m.drop i)=if jE l[i] m[i]=0 then cmpL (l.drop (i+1)) (m.drop (i+1))else jE l[i] m[i]:=by
 rw[List.drop_eq_getElem_cons h,List.drop_eq_getElem_cons a,cmpL]
theorem compare_spec(l m:List Int)(hl:l.length<4611686018427387904):PF Tryz.prog 59 [.seq (l.map I1), .seq (m.map I1)] (vi (cmpL l m)):=by
 refine pF Tryz.func59 rfl λst=>?_
 repeat' first|apply wZ;rfl|show Cn _;constructor
 refine aC (X:={x:Nat//x<=l.length/\x<=m.length/\cmpL (l.drop x) (m.drop x)=cmpL l m}) (λi=>((((((St.nil 36 st).pv 0 (.seq (l.map I1))).pv 1 (.seq (m.map I1))).pv 9 (.seq (l.map I1))).pv 10 (vi ((l.map I1).length:Nat))).pv 11 (vi (i.1:Nat)))) (λi=>l.length-i.1) ⟨0,by omega,by omega,by simp⟩ ?_ λi=>?_
 ·repeat' first|show Cn _;constructor|exact rfl
 obtain⟨i,b,c,a⟩:=i;dsimp only
 repeat' first|refine⟨⟨i+1,by omega,by omega,by rw[<-a,ajI (i:=i) (by omega) (by omega),zp ‹_›]⟩,?_,?_⟩|apply wZ;rfl|show Cn _;constructor|exact rfl|apply kK _ _|show(_:PV)=_;(rw[<-a];(first|rw[ajI (by omega) (by omega),zn ‹_›];done|rw[List.drop_eq_nil_of_le (show l.length<=i by omega),List.drop_eq_getElem_cons (show i<m.length by omega)];rfl|rw[List.drop_eq_nil_of_le (show l.length<=i by omega),List.drop_eq_nil_of_le (show m.length<=i by omega)];rfl|rw[List.drop_eq_nil_of_le (show m.length<=i by omega),List.drop_eq_getElem_cons (show i<l.length by omega)];rfl));done|apply wY;rfl|apply wI;rfl|apply gE;omega|omega|simp only[zql];omega|intro h;simp at h|intro h
def aFF(a b:Sp):Int:=if a=b then 0 else cmpL [a.time,a.dev,a.seq] [b.time,b.dev,b.seq]
theorem aA1(a b:Sp):PF Tryz.prog 349 [.agg a.cells, .agg b.cells] (vi (aFF a b)):=by
 refine pF Tryz.func349 rfl λst=>?_
 repeat' first|apply azK 5;rfl;rfl;rfl|apply azK 6;rfl;rfl;rfl|apply wZ;rfl|show Cn _;constructor|exact rfl|apply KR.mk;kernel_rfl|(first|apply nX a|apply nX b|apply(compare_spec [a.time,a.dev,a.seq] [b.time,b.dev,b.seq] (show 3<4611686018427387904 from by omega)))|show(_:PV)=_;(simp_all[aFF,Sp.ext_iff];done);done|apply slA pk (rows:=[a.time,a.dev,a.seq].map I1);(iterate 7 rfl);rotate_left;rfl;rfl|apply slA pk (rows:=[b.time,b.dev,b.seq].map I1);(iterate 7 rfl);rotate_left;rfl;rfl|apply wY;rfl|intro h;simp at h
theorem cmpI_lt(a b:Int):jE a b<0↔a<b:=by unfold jE;split<;>(try split)<;>omega
theorem cmpI_eq(a b:Int):jE a b=0↔a=b:=by unfold jE;split<;>(try split)<;>omega
theorem aBZ(a b:Sp):decide (aFF a b<0)=gM a b:=by
 unfold aFF gM;by_cases h:a=b
 ·subst h;simp
 ·rw[zn h]
  simp only[cmpL,cmpI_eq];by_cases c:a.time=b.time
  ·by_cases f:a.dev=b.dev
   ·have g:¬a.seq=b.seq:=λe=>h ((Sp.ext_iff _ _).2 ⟨c,f,e⟩)
    simp[c,f,g,cmpI_lt]
   ·simp[c,f,cmpI_lt]
  ·simp[c,cmpI_lt]
theorem nJ(a b:Sp):PF Tryz.prog 318 [.agg a.cells, .agg b.cells] (vb (gM a b)):=by
 rw[<-aBZ];refine pF Tryz.func318 rfl λst=>?_
 repeat' first|apply wZ;rfl|show Cn _;constructor|exact rfl|apply aA1 a b|apply wY;rfl
theorem aKo{f:FuncId}{args:List PV}{st:aD}{R R':PV->aD->Prop}(h:PC Tryz.prog f args st R)(i:∀p st',R p st'->∃q,Wk p q/\R' q st'):PC Tryz.prog f args st R':=
 ⟨h.1,λw g vs hm hv=>(h.2 w g vs hm hv).mono λe w' ⟨v,r,st',g',a,b,c,h4⟩=>by
  obtain⟨q,k1,k2⟩:=i _ _ b
  exact⟨v,q,st',g',a,k2,k1 _ _ c,h4⟩⟩
theorem Wk.und(p:PV):Wk p .und:=λ_ _ _=>by simp[Rep]
def Nm.vals(k:Nm):List Value:=[.int .i64 k.dot.dev, .int .i64 k.dot.seq, .int .i64 k.at_]
def aHY(k:Dt):List Value:=[.int .i64 k.dev, .int .i64 k.seq]
def Nm.enc(k:Nm):Value:= .agg k.vals.toArray
def ayH(k:Dt):Value:= .agg (aHY k).toArray
theorem Nm.key :KeyOK Tryz.prog 303 Nm.enc (λk=> .agg k.cells):=
 xD aS Nm.vals rfl rfl (λ_=>rfl) (λa b=>by show some ((decide (a.dot.dev=b.dot.dev)&&decide (a.dot.seq=b.dot.seq))&&decide (a.at_=b.at_))=_;rw[Dt.eqb,Nm.eqb]) (λ_=>rfl) (by kernel_rfl)
theorem aHS :KeyOK Tryz.prog 69 ayH (λk=> .agg k.cells):=
 xD aS aHY rfl rfl (λ_=>rfl) (λa b=>by show some (decide (a.dev=b.dev)&&decide (a.seq=b.seq))=_;rw[Dt.eqb]) (λ_=>rfl) (by kernel_rfl)
def ptF(p:Pt):PV:= .agg p.cells
def mU(n:Int):PV:=(vi n)
def dV(l:List Pt):List (Nm×Pt):=l.foldl (λm p=>cM (aG p) p m) []
def eP(l:List Pt):List (Dt×Int):=l.foldl (λm p=>cM p.dot p.time m) []
def uM(m:List (Nm×Pt))(t:List (Dt×Int))(p:Pt):Bool:= !((cC (aG p) m).isSome|| !bM p||(match cC p.dot t with|some x=>decide (x≠p.time)|none=>false))
def kN :List Pt->List (Nm×Pt)->List (Dt×Int)->Bool
 |[],_,_=>true
 |p::r,m,t=>uM m t p&&kN r (cM (aG p) p m) (cM p.dot p.time t)
def aBu(m:List (Nm×Pt))(p:Pt):Bool:=decide (aH p=Nm.zero)||(match cC (aH p) m with|some u=>dK u p|none=>false)
def eZ(l:List Pt):Bool:=kN l [] []&&l.all (aBu (dV l))
theorem ajS{l:List Pt}{i:Nat}(h:i<l.length):dV (l.take (i+1))=cM (aG l[i]) l[i] (dV (l.take i)):=by
 rw[List.take_succ_eq_append_getElem h,dV,List.foldl_append];rfl
theorem akG{l:List Pt}{i:Nat}(h:i<l.length):eP (l.take (i+1))=cM l[i].dot l[i].time (eP (l.take i)):=by
 rw[List.take_succ_eq_append_getElem h,eP,List.foldl_append];rfl
theorem apO{l:List Pt}{i:Nat}(h:i<l.length){m t}:kN (l.drop i) m t=(uM m t l[i]&&kN (l.drop (i+1)) (cM (aG l[i]) l[i] m) (cM l[i].dot l[i].time t)):=by
 rw[List.drop_eq_getElem_cons h];rfl
theorem oH(p q:Pt):PF Tryz.prog 291 [.agg p.cells, .agg q.cells] (vb (dK p q)):=by
 refine pF Tryz.func291 rfl λst=>?_
 repeat' first|apply wZ;rfl|show Cn _;constructor|exact rfl|apply KR.mk;kernel_rfl|(first|apply lU p|apply lU q|apply nJ (aM p) (aM q))|show(_:PV)=_;simp only[dK,Sp.eqb];done|apply wY;rfl
theorem aFf(l:List Pt)(st:aD)(hl:l.length<4611686018427387904):PC Tryz.prog 228 [.seq (l.map Pt.cells)] st λp st'=>(∃m,p= .tup [m,vb (eZ l)])/\st'=st:=by
 refine pC Tryz.func228 rfl ?_
 repeat' first|apply wZ;rfl|show Cn _;constructor
 refine mkM (enc:=Nm.enc) (f:=ptF) rfl λa j=>?_
 repeat' first|apply wZ;rfl|show Cn _;constructor
 refine mkM (enc:=ayH) (f:=mU) rfl λid2 b=>?_;have j:st a=none:=j;have o:a≠id2:=by intro e;subst e;have:=b;simp only[St.put,St.pv,St.sst,aA]at this;cases this
 have b:st id2=none:=by have:=b;simp only[St.put,St.pv,St.sst]at this;exact(aB (Ne.symm o)).symm.trans this
 have w:=Ne.symm o
 repeat' first|apply wZ;rfl|show Cn _;constructor
 refine aC (X:={x:Nat//x<=l.length/\kN l [] []=kN (l.drop x) (dV (l.take x)) (eP (l.take x))}) (λi=>(((((((St.nil 94 (upd (upd st a (some (.map (aV Nm.enc ptF (dV (l.take i.1)))))) id2 (some (.map (aV ayH mU (eP (l.take i.1))))))).pv 0 (.seq (l.map Pt.cells))).pv 4 (.mref a)).pv 5 (.mref id2)).pv 18 (.seq (l.map Pt.cells))).pv 19 (vi ((l.map Pt.cells).length:Nat))).pv 20 (vi (i.1:Nat)))) (λi=>l.length-i.1) ⟨0,by omega,rfl⟩ ?_ λi=>?_
 ·repeat' first|show Cn (.t _ _);exact Cn.t0|show Cn _;constructor|exact rfl
 obtain⟨i,hi,c⟩:=i;dsimp only;have hs:=λh:i<l.length=>apO h (m:=dV (l.take i)) (t:=eP (l.take i));have k:=λh:i<l.length=>ajS h;have n:=λh:i<l.length=>akG h
 repeat' first|apply wDm pk;rfl;kernel_rfl;rfl;rfl|apply Cn.cf;focus(((first|apply oL|apply mI));done)|show Cn (.r _ _ _);refine .any ⟨_,_,?zs,rfl,zwr _,?zh,?zr⟩;(case zh=>(refine aR ?_ ‹_›;(repeat refine aR ?_ ‹_›);exact zsr _));(case zr=>(have e:eZ l=false:=(by unfold eZ;rw[c,hs (by omega)];first|simp[uM, *];done|(rcases‹_\/_›with q|q<;>simp[uM, *]));exact⟨⟨.val (.map none),by rw[e]⟩,rfl⟩))|refine⟨⟨i+1,by omega,by rw[c,hs (by omega),k (by omega),n (by omega)];simp[uM, *]⟩,?_,?_⟩;(simp only[k (show i<l.length by omega),n (show i<l.length by omega)])|show Cn (.t _ _);refine .any (cN ?_);(simp only[St.pv,St.put,St.sst,St.setv,St.nil,St.var,eI]);(rw[aLh ‹_›]);(done)|apply wZ;rfl|show Cn _;constructor|exact rfl|apply aD5 pk Nm.key (f:=ptF);(iterate 5 rfl);rotate_left;rfl;(focus((repeat (first|exact aA _ _ _|refine(aB ‹_›).trans ?_));done));rfl;intro v hv;rotate_left;intro hv;rotate_left|apply meA pk Nm.key (f:=ptF) (z:=Pt.zero);(iterate 6 rfl);(focus((repeat (first|exact aA _ _ _|refine(aB ‹_›).trans ?_));done));rfl|apply esA pk Nm.key (f:=ptF);(iterate 4 rfl);(exact aA _ _ _);rfl|apply aD5 pk aHS (f:=mU);(iterate 5 rfl);rotate_left;rfl;(exact aA _ _ _);rfl;intro v hv;rotate_left;intro hv;rotate_left|apply muA pk aHS (f:=mU);(exact .inr rfl);(iterate 5 rfl);(focus((repeat (first|exact aA _ _ _|refine(aB ‹_›).trans ?_));done));rfl|apply wY;rfl|apply wI;rfl|apply gE;omega|omega|simp only[zql];omega|intro h;simp at h
 have u:l.take i=l:=ztl (by omega);have B:kN l [] []=true:=by rw[c,List.drop_eq_nil_of_le (by omega)];rfl
 refine aC (X:={x:Nat//x<=l.length/\(l.take x).all (aBu (dV (l.take i)))=true}) (λy=>(((((St.nil 94 (upd (upd st a (some (.map (aV Nm.enc ptF (dV (l.take i)))))) id2 (some (.map (aV ayH mU (eP (l.take i))))))).pv 4 (.mref a)).pv 65 (.seq (l.map Pt.cells))).pv 66 (vi ((l.map Pt.cells).length:Nat))).pv 67 (vi (y.1:Nat)))) (λy=>l.length-y.1) ⟨0,by omega,rfl⟩ ?_ λy=>?_
 ·repeat' first|show Cn (.t _ _);exact Cn.t0|show Cn _;constructor|exact rfl
 clear hs k n;obtain⟨y,hy,g⟩:=y;dsimp only
 repeat' first|apply Cn.cf;focus(((first|apply rB|apply oH|apply oH Pt.zero));done)|show Cn (.r _ _ _);refine .any ⟨_,_,?zs,rfl,zwr _,?zh,?zr⟩;(case zh=>(refine aR ?_ ‹_›;(repeat refine aR ?_ ‹_›);exact zsr _));(case zr=>(first|have e:eZ l=false:=(by unfold eZ;simp only[u]at*;rw[B,Bool.true_and,List.all_eq_false];refine⟨l[y]'‹_›,zgm _,?_⟩;simp[aBu,Nm.ext_iff,Dt.ext_iff,Nm.zero,Dt.zero,and_assoc, *];try(intros;omega));exact⟨⟨.val (.map none),by rw[e]⟩,rfl⟩|have e:eZ l=true:=(by unfold eZ;simp only[u]at*;rw[B,Bool.true_and,<-g,ztl (by omega)]);exact⟨⟨.mref a,by rw[e]⟩,rfl⟩))|refine⟨⟨y+1,by omega,by simp only[u]at*;rw[List.take_succ_eq_append_getElem (by omega),List.all_append,g];simp[aBu,Nm.ext_iff,Dt.ext_iff,Nm.zero,Dt.zero,and_assoc, *];try grind⟩,?_,?_⟩|show Cn (.t _ _);exact Cn.t0|apply wZ;rfl|show Cn _;constructor|exact rfl|apply aD5 pk Nm.key (f:=ptF);(iterate 5 rfl);rotate_left;rfl;(focus((repeat (first|exact aA _ _ _|refine(aB ‹_›).trans ?_));done));rfl;intro v hv;rotate_left;intro hv;rotate_left|apply wY;rfl|apply wI;rfl|apply gE;omega|omega|simp only[zql];omega|intro h;simp at h
def dZ(a b:Pt):Int:=if aM a=aM b then a.at_-b.at_ else if gM (aM b) (aM a)then-1 else 1
theorem nO{p:Pt}(h:bM p=true):0<=p.at_/\p.at_<=1999:=by
 simp only[bM,mayN,withinB,zba,zde]at h;exact h.1.2.2
theorem jF(a b:Pt)(ha:bM a=true)(hb:bM b=true):PF Tryz.prog 294 [.agg a.cells, .agg b.cells] (vi (dZ a b)):=by
 have c:=nO ha;have e:=nO hb;refine pF Tryz.func294 rfl λst=>?_
 repeat' first|apply wZ;rfl|show Cn _;constructor|exact rfl|apply KR.mk;kernel_rfl|(first|apply lU a|apply lU b|apply nJ (aM b) (aM a))|show(_:PV)=_;(simp only[dZ,Sp.ext_iff];simp_all);done|apply wY;rfl|omega|intro h;simp at h|intro h
theorem ahH(a:Sp):gM a a=false:=by simp[gM]
theorem agY(a b:Sp):gM a b=true↔a.time<b.time\/a.time=b.time/\(a.dev<b.dev\/a.dev=b.dev/\a.seq<b.seq):=by
 unfold gM;split
 ·rw[zde];omega
 ·split
  ·rw[zde];omega
  ·rw[zde];omega
def eT(a b:Pt):Prop:=gM (aM b) (aM a)=true\/aM a=aM b/\a.at_<b.at_
theorem aiK(a b:Pt):dZ a b<0↔eT a b:=by
 unfold dZ eT;by_cases h:aM a=aM b
 ·rw[zp h,h,ahH];simp;omega
 ·rw[zn h]
  split
  ·rename_i c;simp[c]
  ·rename_i c;simp[c,h]
abbrev Fp :={p:Pt//bM p=true}
instance : Inhabited Fp:=⟨⟨⟨⟨1,0,e0⟩,⟨1,1⟩,0,1,Dt.zero,0,false⟩,by decide⟩⟩
def aCQ(a b:Fp):Int:=dZ a.1 b.1
theorem fI(a b:Pt):eT a b↔b.time<a.time\/b.time=a.time/\(b.dot.dev<a.dot.dev\/b.dot.dev=a.dot.dev/\(b.dot.seq<a.dot.seq\/b.dot.seq=a.dot.seq/\a.at_<b.at_)):=by
 unfold eT;rw[agY,Sp.ext_iff];simp only[aM];omega
theorem aB7 :Go.Sort.SWO (ltOf aCQ):=by
 have h:∀x y:Fp,ltOf aCQ x y=true↔eT x.1 y.1:=λx y=>by rw[ltOf,zde];exact aiK _ _
 have hf:∀x y:Fp,ltOf aCQ x y=false↔¬eT x.1 y.1:=λx y=>by rw[<-h,Bool.not_eq_true]
 refine⟨λx=>(hf x x).2 ?_,λx y z a b=>?_,λx y z a b=>?_⟩
 ·rw[fI];omega
 ·rw[h,fI]at a b⊢;omega
 ·rw[hf,fI]at a b⊢;omega
def gA(l:List Pt)(k:Nm):List Pt:=l.filter λp=>decide (aH p=k)
theorem xR{l:List Pt}{i:Nat}(h:i<l.length)(k:Nm):gA (l.take (i+1)) k=if aH l[i]=k then gA (l.take i) k++[l[i]]else gA (l.take i) k:=by
 unfold gA;rw[List.take_succ_eq_append_getElem h,List.filter_append];by_cases hk:aH l[i]=k<;>simp[hk]
def adI(x:Nat×Nat):PV:= .vec x.1 11 0 x.2
structure FamB (st:aD) (l:List Pt) (idm:Nat) (K:List (Nm×(Nat×Nat))) (S:aD):Prop where
 old:∀j,st j≠none->S j=st j
 hm:S idm=some (.map (aV Nm.enc adI K))
 mf:st idm=none
 arr:∀k id n,(k,(id,n))∈K->S id=some (.arr 177 ((gA l k).map Pt.cells))/\n=(gA l k).length/\st id=none
 keys:(K.map (·.1)).Nodup
 ids:(K.map (·.2.1)).Nodup
 non:∀k,cC k K=none->gA l k=[]
theorem rI{K V:Type}[DecidableEq K]{k:K}{v:V}:∀{l:List (K×V)},cC k l=some v->(k,v)∈l
  |(k',v')::l,h=>by
    simp only[cC]at h
    split at h
    · rename_i e;injection h with h;subst h;subst e;simp
    · exact List.mem_cons_of_mem _ (rI h)
theorem abY(l:List Pt)(hl:l.length<4611686018427387904):PF Tryz.prog 228 [.seq (l.map Pt.cells)] (.tup [.und,vb (eZ l)]):=λst=>
 aKo (aFf l st hl) λp st' ⟨⟨m,e⟩,h⟩=>⟨_,e▸Wk.tup (.cons (Wk.und m) (.cons (zwr _) .nil)),rfl,h⟩
theorem xY :Tryz.prog.bytesOf 177=96:=by kernel_rfl
theorem FamB.fresh{st S:aD}{l:List Pt}{idm:Nat}{K:List (Nm×(Nat×Nat))}(h:FamB st l idm K S){id:Nat}(a:S id=none):st id=none/\id≠idm/\∀k i n,(k,(i,n))∈K->id≠i:=by
 refine⟨?_,?_,?_⟩
 ·cases hs:st id with
  |none=>rfl
  |some o=>have:=h.old id (by rw[hs];simp);rw[a,hs]at this;cases this
 ·intro e;subst e;rw[h.hm]at a;cases a
 ·intro k i n hk e;subst e;rw[(h.arr k _ n hk).1]at a;cases a
theorem FamB.notm{st S:aD}{l:List Pt}{idm:Nat}{K:List (Nm×(Nat×Nat))}(h:FamB st l idm K S){k:Nm}{i n:Nat}(hk:(k,(i,n))∈K):i≠idm:=by
 intro e;subst e;have:=(h.arr k _ n hk).1;rw[h.hm]at this;cases this
theorem sL{K V:Type}[DecidableEq K](k k':K)(v:V):∀(l:List (K×V)),cC k' (cM k v l)=if k'=k then some v else cC k' l
 |[]=>by simp only[cM,cC]
 |e::l=>by
  have b:=sL k k' v l
  simp only[cM]
  split
  ·rename_i h;simp only[cC];split<;>simp_all
  ·rename_i h;simp only[cC,b];split
   ·rename_i a;rw[zn λe=>h (by rw[<-e,a])]
   ·rfl
theorem xH{K V:Type}[DecidableEq K]{k:K}{v:V}{x:K×V}:∀{l:List (K×V)},(l.map (·.1)).Nodup->x∈cM k v l->x=(k,v)\/x∈l/\x.1≠k
 |[],_,h=>by simp only[cM,zms]at h;exact .inl h
 |e::l,hn,h=>by
  simp only[zmp,List.nodup_cons]at hn
  simp only[cM]at h
  split at h
  ·rename_i a
   rcases zmc.1 h with h|h
   ·exact .inl h
   ·refine .inr ⟨List.mem_cons_of_mem _ h,λhh=>hn.1 ?_⟩
    rw[<-a,<-hh];exact List.mem_map.2 ⟨x,h,rfl⟩
  ·rename_i a
   rcases zmc.1 h with h|h
   ·subst h;exact .inr ⟨List.mem_cons_self,λhh=>a hh.symm⟩
   ·rcases xH hn.2 h with h|⟨h,b⟩
    ·exact .inl h
    ·exact .inr ⟨List.mem_cons_of_mem _ h,b⟩
theorem adV{K V:Type}[DecidableEq K]{k:K}{v:V}:∀{l:List (K×V)},(l.map (·.1)).Nodup->((cM k v l).map (·.1)).Nodup
 |[],_=>by simp[cM]
 |e::l,hn=>by
  simp only[zmp,List.nodup_cons]at hn
  simp only[cM]
  split
  ·rename_i b;simp only[zmp,List.nodup_cons,b];exact hn
  ·rename_i b
   simp only[zmp,List.nodup_cons];refine⟨λhm=>?_,adV hn.2⟩;obtain⟨x,hx,a⟩:=List.mem_map.1 hm;rcases xH hn.2 hx with rfl|⟨h,_⟩
   ·exact b a
   ·exact hn.1 (List.mem_map.2 ⟨x,h,a⟩)
theorem ajE{K V:Type}[DecidableEq K]{k:K}{v:V}{g:V->Nat}:∀{l:List (K×V)},(l.map λe=>g e.2).Nodup->(l.map (·.1)).Nodup->(∀e∈l,g e.2≠g v)->((cM k v l).map λe=>g e.2).Nodup
 |[],_,_,_=>by simp[cM]
 |e::l,hn,hk,hv=>by
  simp only[zmp,List.nodup_cons]at hn hk
  simp only[cM]
  split
  ·simp only[zmp,List.nodup_cons]
   refine⟨λhm=>?_,hn.2⟩;obtain⟨x,hx,a⟩:=List.mem_map.1 hm;exact hv x (List.mem_cons_of_mem _ hx) a
  ·simp only[zmp,List.nodup_cons]
   refine⟨λhm=>?_,ajE hn.2 hk.2 λx hx=>hv x (List.mem_cons_of_mem _ hx)⟩;obtain⟨x,hx,a⟩:=List.mem_map.1 hm;rcases xH hk.2 hx with rfl|⟨h,_⟩
   ·exact hv e List.mem_cons_self a.symm
   ·exact hn.1 (List.mem_map.2 ⟨x,h,a⟩)
theorem xZ{α:Type}{g:α->Nat}:∀{l:List α},(l.map g).Nodup->∀{a b},a∈l->b∈l->g a=g b->a=b
 |[],_,_,_,h,_,_=>by cases h
 |x::l,hn,a,b,ha,hb,e=>by
  simp only[zmp,List.nodup_cons]at hn
  rcases zmc.1 ha with ha|ha<;>rcases zmc.1 hb with hb|hb
  ·rw[ha,hb]
  ·exact(hn.1 (List.mem_map.2 ⟨b,hb,by rw[<-e,ha]⟩)).elim
  ·exact(hn.1 (List.mem_map.2 ⟨a,ha,by rw[e,hb]⟩)).elim
  ·exact xZ hn.2 ha hb e
theorem FamB.step{st S S1:aD}{l:List Pt}{i:Nat}(hi:i<l.length){idm id m:Nat}{K:List (Nm×(Nat×Nat))}(h:FamB st (l.take i) idm K S)(c:S id=none)(hm:m=(gA (l.take i) (aH l[i])).length+1)(q:∀j,(∀n,(aH l[i],(j,n))∉K)->S1 j=S j):
  FamB st (l.take (i+1)) idm (cM (aH l[i]) (id,m) K) (upd (upd S1 id (some (.arr 177 ((gA (l.take i) (aH l[i])++[l[i]]).map Pt.cells)))) idm (some (.map (aV Nm.enc adI (cM (aH l[i]) (id,m) K))))):=by
 obtain⟨o,y,p⟩:=h.fresh c
 refine⟨λj hj=>?_,aA _ _ _,h.mf,λk j n hx=>?_,adV h.keys,ajE (g:=(·.1)) h.ids h.keys λe z=>?_,λk a=>?_⟩
 ·rw[aB (λe=>by subst e;exact hj h.mf),aB (λe=>by subst e;exact hj o),q j λn hn=>hj (h.arr _ j n hn).2.2];exact h.old j hj
 ·rcases xH h.keys hx with e|⟨hx,b⟩
  ·simp only[Prod.mk.injEq]at e
   obtain⟨rfl,rfl,rfl⟩:=e;rw[xR hi,zp rfl,aB y,aA];exact⟨rfl,by rw[hm];simp,o⟩
  ·obtain⟨u,v,w⟩:=h.arr k j n hx
   rw[xR hi,zn (Ne.symm b),aB (h.notm hx),aB λe=>p k j n hx e.symm,q j λn' f=>b ?_]
   ·exact⟨u,v,w⟩
   ·exact congrArg Prod.fst (xZ h.ids hx f rfl)
 ·exactλx=>p e.1 e.2.1 e.2.2 z x.symm
 ·rw[sL]at a
  split at a
  ·cases a
  ·rename_i b
   rw[xR hi,zn (Ne.symm b)];exact h.non k a
theorem FamB.nil{st:aD}{idm:Nat}(h:st idm=none):FamB st [] idm [] (upd st idm (some (.map (aV Nm.enc adI [])))):=
 ⟨λj hj=>aB λe=>by subst e;exact hj h,aA _ _ _,h,λ_ _ _ h=>(by cases h),by simp,by simp,λ_ _=>rfl⟩
theorem aqM(l:List Pt)(k:Nm):(gA l k).length<=l.length:=List.length_filter_le _ _
end
section
attribute [local irreducible] Ev PWp
set_option maxRecDepth 10000
set_option maxHeartbeats 4000000
theorem aF9 :PF Tryz.prog 89 [(vu (0:Nat))] (vi (0:Nat)):=by
 refine pF Tryz.func89 rfl λst=>?_
 repeat' first|show Cn (.e _ _ _ _);refine .any ?_;(refine⟨_,_,_,rfl,zwr _,zsr _,?_,rfl⟩;(rfl))|apply wZ;rfl|show Cn _;constructor|apply cvA pk.htt;(iterate 5 rfl);(refine⟨?_,?_⟩<;>(first|omega|decide));rfl|apply sxA pk.htt 0 0;(iterate 6 rfl);kernel_rfl;rfl|exact⟨by decide,by decide⟩
theorem aJZ{y:Int}(hy:y=0):PF Tryz.prog 47 [(vu (y))] (vi (0:Nat)):=by
 subst hy;refine pF Tryz.func47 rfl λst=>?_
 repeat' first|apply wZ;rfl|show Cn _;constructor|exact rfl|apply aF9|apply wY;rfl
section
variable{fid:FuncId}{caps:List PV}{st:aD}
theorem aGn :PC Tryz.prog 363 [.seq [],vi 0,vi 0, .fn fid caps] st λ_ st'=>st'=st:=by
 refine pC Tryz.func363 rfl ?_
 repeat' first|apply wZ;rfl|show Cn _;constructor|omega
 refine aC (X:=Unit) (λi=>((((((St.nil 53 st).pv 0 (.seq [])).pv 1 (vi 0)).pv 2 (vi 0)).pv 3 (.fn fid caps)).pv 8 (vi 1))) (λi=>0) () ?_ λi=>?_
 ·repeat' first|show Cn _;constructor|exact rfl
 repeat' first|show Cn (.r _ _ _);refine .rr ?_;(rfl);done|apply wZ;rfl|show Cn _;constructor
theorem aFU{lim:Int}:PC Tryz.prog 341 [.seq [],vi 0,vi 0,vi lim, .fn fid caps] st λ_ st'=>st'=st:=by
 refine pC Tryz.func341 rfl ?_
 repeat' first|apply wZ;rfl|show Cn _;constructor
 refine aC (X:=Unit) (λi=>((((((((St.nil 148 st).pv 0 (.seq [])).pv 1 (vi 0)).pv 2 (vi 0)).pv 3 (vi lim)).pv 4 (.fn fid caps)).pv 10 (vb true)).pv 11 (vb true))) (λi=>0) () ?_ λi=>?_
 ·repeat' first|show Cn _;constructor|exact rfl
 repeat' first|apply cP;rfl;(apply aGn);(rintro _ st' rfl)|show Cn (.r _ _ _);refine .rr ?_;(rfl);done|apply wZ;rfl|show Cn _;constructor|apply wY;rfl|omega
theorem aCT :PC Tryz.prog 293 [.seq [], .fn fid caps] st λ_ st'=>st'=st:=by
 refine pC Tryz.func293 rfl ?_
 repeat' first|apply Cn.cf;focus((apply aJZ rfl);done)|apply cP;rfl;(apply aFU);(rintro _ st' rfl)|show Cn (.r _ _ _);refine .rr ?_;(rfl);done|apply wZ;rfl|show Cn _;constructor|apply cvA pk.htt;(iterate 5 rfl);(refine⟨?_,?_⟩<;>(first|omega|decide));rfl|apply wY;rfl
end
theorem auV{S:aD}{l:List Pt}{id n:Nat}(hf:∀p∈l,bM p=true)(i:S id=some (.arr 177 (l.map Pt.cells)))(hn:l.length=n)(f:n<4611686018427387904):
  PC Tryz.prog 293 [.vec id 11 0 n, .fn 294 []] S λ_ c=>∃R:List Pt,c=upd S id (some (.arr 177 (R.map Pt.cells)))/\R.Perm l/\R.Pairwise λx y=>¬eT y x:=by
 have e:(l.attach.map λx=>(⟨x.1,hf x.1 x.2⟩:Fp)).map (λx=>([.int .i64 x.1.val.kind, .int .i64 x.1.val.n, .string x.1.val.s, .int .i64 x.1.dot.dev, .int .i64 x.1.dot.seq, .int .i64 x.1.at_, .int .i64 x.1.time, .int .i64 x.1.after.dev, .int .i64 x.1.after.seq, .int .i64 x.1.afterAt, .bool x.1.gone]:List Value).map PV.val)=l.map Pt.cells:=by
  rw[List.map_map];show l.attach.map (λx=>Pt.cells x.1)=_;rw[List.attach_map_val]
 have:=aqQ (P:=Tryz.prog) aLt (by kernel_rfl) (k:=11) Tryz.isAgg177 Tryz.sizeOf177 (enc:=λx:Fp=>[.int .i64 x.1.val.kind, .int .i64 x.1.val.n, .string x.1.val.s, .int .i64 x.1.dot.dev, .int .i64 x.1.dot.seq, .int .i64 x.1.at_, .int .i64 x.1.time, .int .i64 x.1.after.dev, .int .i64 x.1.after.seq, .int .i64 x.1.afterAt, .bool x.1.gone]) (λ_=>rfl) (λx v hv=>by simp only[zmc,List.not_mem_nil,or_false]at hv;rcases hv with rfl|rfl|rfl|rfl|rfl|rfl|rfl|rfl|rfl|rfl|rfl<;>rfl) (cmp:=aCQ) aB7
  (gf:=294) (by kernel_rfl) (λx y=>jF x.1 y.1 x.2 y.2) (st:=S) (id:=id) (n:=n) (d:=l.attach.map λx=>⟨x.1,hf x.1 x.2⟩) (e:=177) (by kernel_rfl) (by rw[e];exact i) (by simpa using hn) f
 refine⟨this.1,λw g vs j m=>(this.2 w g vs j m).mono ?_⟩
 rintro e w' ⟨v,q,c,g',h3,⟨r,hS,hp,hw⟩,h4⟩
 refine⟨v,q,c,g',h3,⟨r.map (·.1),?_,?_,?_⟩,h4⟩
 ·rw[hS,List.map_map];rfl
 ·have:=hp.map (·.1)
  rwa[List.map_map,show((λx:Fp=>x.1)∘λx:{x//x∈l}=>(⟨x.1,hf x.1 x.2⟩:Fp))=Subtype.val from rfl,List.attach_map_subtype_val]at this
 ·rw[List.pairwise_map]
  exact hw.imp fun{a b} h=>by rwa[aCQ,aiK]at h
end
section
attribute [local irreducible] Ev PWp
set_option maxRecDepth 10000
set_option maxHeartbeats 4000000
instance(a b:Pt):Decidable (eT a b):=by unfold eT;infer_instance
def asO(p:Pt):List Pt->List Pt
 |[]=>[p]
 |q::r=>if eT q p then q::asO p r else p::q::r
def cQ(l:List Pt)(k:Nm):List Pt:=(gA l k).foldr asO []
def eO(l:List Pt):Nat->Nm->List Pt
 |0,_=>[]
 |n+1,k=>(cQ l k).flatMap λp=>p::eO l n (aG p)
def auZ(l:List Pt):Nat->Nm->Prop
 |0,k=>gA l k=[]
 |n+1,k=>∀p∈gA l k,auZ l n (aG p)
theorem uniq{α:Type}{r:α->α->Prop}:∀{l m:List α},l.Perm m->l.Pairwise r->m.Pairwise r->(∀a∈l,∀b∈l,r a b->r b a->a=b)->l=m
 |[],m,h,_,_,_=>(List.Perm.nil_eq h)
 |a::l,[],h,_,_,_=>(by cases List.Perm.eq_nil h)
 |a::l,b::m,h,h1,h2,ha=>by
  have f:a=b:=by
   rcases zmc.1 (h.symm.subset (List.mem_cons_self:b∈b::m))with e|e
   ·exact e.symm
   ·rcases zmc.1 (h.subset (List.mem_cons_self:a∈a::l))with c|c
    ·exact c
    ·exact ha a List.mem_cons_self b (List.mem_cons_of_mem _ e) ((List.pairwise_cons.1 h1).1 b e) ((List.pairwise_cons.1 h2).1 a c)
  subst f
  rw[uniq ((List.perm_cons a).1 h) (List.pairwise_cons.1 h1).2 (List.pairwise_cons.1 h2).2 λx hx y hy=>ha x (List.mem_cons_of_mem _ hx) y (List.mem_cons_of_mem _ hy)]
theorem zH(p:Pt):∀(l:List Pt),(asO p l).Perm (p::l)
 |[]=> .refl _
 |q::r=>by
  unfold asO
  split
  ·exact((zH p r).cons q).trans (.swap p q r)
  ·exact .refl _
theorem aaK(p:Pt):∀(l:List Pt),(l.Pairwise λx y=>¬eT y x)->(asO p l).Pairwise λx y=>¬eT y x
 |[],_=>by simp[asO]
 |q::r,h=>by
  obtain⟨a,b⟩:=List.pairwise_cons.1 h
  unfold asO
  split
  ·rename_i hk
   refine List.pairwise_cons.2 ⟨λx hx=>?_,aaK p r b⟩;rcases zmc.1 ((zH p r).subset hx)with rfl|hx
   ·rw[fI]at hk⊢;omega
   ·exact a x hx
  ·rename_i hk
   refine List.pairwise_cons.2 ⟨λx hx=>?_,h⟩;rcases zmc.1 hx with rfl|hx
   ·exact hk
   ·have:=a x hx
    rw[fI]at hk this⊢;omega
theorem jM(l:List Pt)(k:Nm):(cQ l k).Perm (gA l k):=by
 unfold cQ;generalize gA l k=m
 induction m with
 |nil=>exact .refl _
 |cons p r ih=>exact(zH p _).trans (ih.cons p)
theorem vW(l:List Pt)(k:Nm):(cQ l k).Pairwise λx y=>¬eT y x:=by
 unfold cQ;generalize gA l k=m
 induction m with
 |nil=>exact List.Pairwise.nil
 |cons p r ih=>exact aaK p _ ih
def named(l:List Pt):Prop:=∀a∈l,∀b∈l,aG a=aG b->a=b
theorem ayK{l:List Pt}(hn:named l){a b:Pt}(ha:a∈l)(hb:b∈l)(c:¬eT a b)(e:¬eT b a):a=b:=by
 refine hn a ha b hb ?_;rw[fI]at c e;rw[aG,aG,Nm.mk.injEq,Dt.ext_iff];omega
theorem aC0{l R:List Pt}{k:Nm}(hn:named l)(hp:R.Perm (gA l k))(hs:R.Pairwise λx y=>¬eT y x):R=cQ l k:=by
 refine uniq (hp.trans (jM l k).symm) hs (vW l k) λa ha b hb c e=>?_;have hm:∀x∈R,x∈l:=λx hx=>(List.mem_filter.1 (hp.subset hx)).1;exact ayK hn (hm a ha) (hm b hb) e c
structure HS (st:aD) (l:List Pt) (id5 id8 id9 idm:Nat) (K:List (Nm×(Nat×Nat))) (S:aD) (A:Nm->List Pt) (out:List Pt):Prop where
 old:∀j,st j≠none->S j=st j
 f5:st id5=none
 f8:st id8=none
 f9:st id9=none
 fm:st idm=none
 h5:S id5=some (.cells 328 [.mref idm])
 h9:S id9=some (.cells 329 [.fn 292 [.ref id5 0, .ref id8 0, .ref id9 0]])
 hm:S idm=some (.map (aV Nm.enc adI K))
 arr:∀k id n,(k,(id,n))∈K->S id=some (.arr 177 ((A k).map Pt.cells))/\n=(gA l k).length/\st id=none
 ids:(K.map (·.2.1)).Nodup
 keys:(K.map (·.1)).Nodup
 non:∀k,cC k K=none->gA l k=[]
 perm:∀k,(A k).Perm (gA l k)
 h8:(S id8=some (.cells 114 [.val (.slice none 0 0)])/\out=[])\/∃ido,S id8=some (.cells 114 [.vec ido 11 0 out.length])/\S ido=some (.arr 177 (out.map Pt.cells))/\st ido=none/\∀k n,(k,(ido,n))∉K
section
variable{st S:aD}{l:List Pt}{id5 id8 id9 idm:Nat}{K:List (Nm×(Nat×Nat))}{A:Nm->List Pt}{out:List Pt}
theorem HS.sorted(h:HS st l id5 id8 id9 idm K S A out){k:Nm}{id n:Nat}(hk:(k,(id,n))∈K){R:List Pt}(v:R.Perm (A k)):
  HS st l id5 id8 id9 idm K (upd S id (some (.arr 177 (R.map Pt.cells)))) (λk'=>if k'=k then R else A k') out:=by
 obtain⟨b,w,p⟩:=h.arr k id n hk
 have n5:id5≠id:=λe=>by rw[<-e,h.h5]at b;cases b
 have n9:id9≠id:=λe=>by rw[<-e,h.h9]at b;cases b
 have nm:idm≠id:=λe=>by rw[<-e,h.hm]at b;cases b
 have o:id8≠id:=λe=>by rcases h.h8 with⟨h8,_⟩|⟨g,h8,_⟩<;>rw[<-e,h8]at b<;>cases b
 refine⟨λj hj=>?_,h.f5,h.f8,h.f9,h.fm,(aB n5).trans h.h5,(aB n9).trans h.h9,(aB nm).trans h.hm,λk' j m a=>?_,h.ids,h.keys,h.non,λk'=>?_,?_⟩
 ·rw[aB λe=>by subst e;exact hj p];exact h.old j hj
 ·obtain⟨b1,b2,f⟩:=h.arr k' j m a
  by_cases hj:j=id
  ·subst hj
   have:=xZ h.ids hk a rfl;simp only[Prod.mk.injEq]at this;obtain⟨rfl,_⟩:=this;exact⟨by rw[aA,zp rfl],b2,f⟩
  ·refine⟨?_,b2,f⟩
   rw[aB hj,b1,zn];intro e;subst e;have i:∀{K:List (Nm×(Nat×Nat))},(K.map (·.1)).Nodup->(k',(id,n))∈K->(k',(j,m))∈K->id=j:=by
    intro K hn
    induction K with
    |nil=>intro h;cases h
    |cons x K ih=>
     intro q u;simp only[zmp,List.nodup_cons]at hn;rcases zmc.1 q with e1|e1<;>rcases zmc.1 u with c|c
     ·rw[<-e1]at c;exact(Prod.mk.inj (Prod.mk.inj c).2).1.symm
     ·exact(hn.1 (List.mem_map.2 ⟨_,c,by rw[<-e1]⟩)).elim
     ·exact(hn.1 (List.mem_map.2 ⟨_,e1,by rw[<-c]⟩)).elim
     ·exact ih hn.2 e1 c
   exact hj (i h.keys hk a).symm
 ·by_cases a:k'=k
  ·subst a;simp only[if_true];exact v.trans (h.perm k')
  ·simp only[zn a];exact h.perm k'
 ·rcases h.h8 with⟨h8,e⟩|⟨g,h8,b1,b2,f⟩
  ·exact .inl ⟨(aB o).trans h8,e⟩
  ·exact .inr ⟨g,(aB o).trans h8,(aB λe=>f k n (by rw[e];exact hk)).trans b1,b2,f⟩
theorem HS.push(h:HS st l id5 id8 id9 idm K S A out){S1:aD}{a:Nat}(p:Pt)(b:S a=none)(v:∀j,S1 j=S j\/st j=none/\j≠id5/\j≠id9/\j≠idm/\∀k n,(k,(j,n))∉K):
  HS st l id5 id8 id9 idm K (upd (upd S1 a (some (.arr 177 ((out++[p]).map Pt.cells)))) id8 (some (.cells 114 [.vec a 11 0 (out.length+1)]))) A (out++[p]):=by
 have n5:id5≠a:=λe=>by rw[<-e,h.h5]at b;cases b
 have n9:id9≠a:=λe=>by rw[<-e,h.h9]at b;cases b
 have nm:idm≠a:=λe=>by rw[<-e,h.hm]at b;cases b
 have z:id8≠a:=λe=>by rcases h.h8 with⟨h8,_⟩|⟨ido,h8,_⟩<;>rw[<-e,h8]at b<;>cases b
 have w:id5≠id8:=λe=>by have:=h.h5;rcases h.h8 with⟨h8,_⟩|⟨ido,h8,_⟩<;>rw[e,h8]at this<;>cases this
 have x:id9≠id8:=λe=>by have:=h.h9;rcases h.h8 with⟨h8,_⟩|⟨ido,h8,_⟩<;>rw[e,h8]at this<;>cases this
 have y:idm≠id8:=λe=>by have:=h.hm;rcases h.h8 with⟨h8,_⟩|⟨ido,h8,_⟩<;>rw[e,h8]at this<;>cases this
 have hi:st a=none:=by
  cases hs:st a with
  |none=>rfl
  |some o=>have:=h.old a (by rw[hs];simp);rw[b,hs]at this;cases this
 have g:∀j,j≠id8->j≠a->(∀h:st j=none/\j≠id5/\j≠id9/\j≠idm/\∀k n,(k,(j,n))∉K,False)->upd (upd S1 a (some (.arr 177 ((out++[p]).map Pt.cells)))) id8 (some (.cells 114 [.vec a 11 0 (out.length+1)])) j=S j:=λj m q u=>by
  rw[aB m,aB q]
  rcases v j with e|e
  ·exact e
  ·exact(u e).elim
 refine⟨λj hj=>?_,h.f5,h.f8,h.f9,h.fm,(g id5 w n5 λe=>e.2.1 rfl).trans h.h5,(g id9 x n9 λe=>e.2.2.1 rfl).trans h.h9,(g idm y nm λe=>e.2.2.2.1 rfl).trans h.hm,λk j n hk=>?_,h.ids,h.keys,h.non,h.perm,?_⟩
 ·rw[g j (λe=>by subst e;exact hj h.f8) (λe=>by subst e;exact hj hi) λe=>hj e.1];exact h.old j hj
 ·obtain⟨b1,b2,c⟩:=h.arr k j n hk
  have i:j≠id8:=λe=>by rcases h.h8 with⟨h8,_⟩|⟨ido,h8,_⟩<;>rw[e,h8]at b1<;>cases b1
  have f:j≠a:=λe=>by rw[e,b]at b1;cases b1
  rw[g j i f λe=>e.2.2.2.2 k n hk];exact⟨b1,b2,c⟩
 ·refine .inr ⟨a,by rw[aA];simp,by rw[aB (Ne.symm z),aA],hi,λk n hk=>?_⟩
  have:=(h.arr k a n hk).1;rw[b]at this;cases this
theorem jC{k:Nm}{p:Pt}(h:p∈cQ l k):p∈l/\p∈gA l k:=by
 have:=(jM l k).subset h;exact⟨(List.mem_filter.1 this).1,this⟩
theorem aAz(hn:named l)(hf:∀p∈l,bM p=true)(h62:l.length<4611686018427387904):∀(n:Nat)(up:Nm)(S:aD)(A:Nm->List Pt)(out:List Pt),auZ l n up->out.length+(eO l n up).length<=1000000->HS st l id5 id8 id9 idm K S A out->
  PC Tryz.prog 292 [.agg up.cells, .ref id5 0, .ref id8 0, .ref id9 0] S λ_ S'=>∃W,HS st l id5 id8 id9 idm K S' W (out++eO l n up)/\∀k,A k=cQ l k->W k=cQ l k:=by
 intro n
 induction n using Nat.strongRecOn with
 |ind n ih=>?_
 intro up S A out hd Z h
 have hk:∀p∈gA l up,n≠0/\auZ l (n-1) (aG p):=λp hp=>by
  cases n with
  |zero=>rw[show gA l up=[]from hd]at hp;cases hp
  |succ n=>exact⟨by omega,hd p hp⟩
 have hh:eO l n up=(cQ l up).flatMap λp=>p::eO l (n-1) (aG p):=by
  cases n with
  |zero=>rw[show cQ l up=[]from List.Perm.eq_nil ((jM l up).trans (by rw[show gA l up=[]from hd]))];rfl
  |succ n=>rfl
 rw[hh]at Z
 rw[hh]
 clear hh hd
 have L:=h.h5
 have N:=h.hm
 refine pC Tryz.func292 rfl ?_
 repeat' first|apply wZ;rfl|show Cn _;constructor|apply ldR pk;rfl;rfl;rotate_left;rfl;(assumption);rfl;rfl|apply aD5 pk Nm.key (f:=adI);(iterate 5 rfl);rotate_left;rfl;(assumption);rfl;intro v hv;rotate_left;intro hv;rotate_left
 ·obtain⟨id,m⟩:=v
  have y:=rI hv;obtain⟨a1,a2,a3⟩:=h.arr _ _ _ y;have c:(A up).length=m:=by rw[(h.perm up).length_eq,a2]
  have H:∀p∈A up,bM p=true:=λp hp=>hf p (List.mem_filter.1 ((h.perm up).subset hp)).1;have Y:m<4611686018427387904:=by have:=aqM l up;omega
  repeat' first|apply cP;rfl;(apply(auV (l:=A up) H)<;>(assumption));rintro _ st' (⟨R,rfl,hR1,hR2⟩)|apply wZ;rfl|show Cn _;constructor|apply wY;rfl
  obtain rfl:R=cQ l up:=aC0 hn (hR1.trans (h.perm up)) hR2;have h:=h.sorted y hR1;have hm':(cQ l up).length=m:=by rw[hR1.length_eq,c]
  have G:∀k,A k=cQ l k->(if k=up then cQ l up else A k)=cQ l k:=λk hk=>by
   by_cases e:k=up
   ·rw[zp e,e]
   ·rw[zn e,hk]
  obtain⟨C,h,g,o⟩:∃C,HS st l id5 id8 id9 idm K (upd S id (some (.arr 177 ((cQ l up).map Pt.cells)))) C out/\C up=cQ l up/\∀k,A k=cQ l k->C k=cQ l k:=⟨_,h,by simp,G⟩;clear G H hR1 hR2 c a1 a3 L N;refine aC (X:={x:Nat×aD×(Nm->List Pt)//x.1<=m/\HS st l id5 id8 id9 idm K x.2.1 x.2.2 (out++((cQ l up).take x.1).flatMap λp=>p::eO l (n-1) (aG p))/\x.2.2 up=cQ l up/\∀k,A k=cQ l k->x.2.2 k=cQ l k}) (λi=>((((((St.nil 28 (i.1.2.1)).pv 2 (.ref id8 0)).pv 3 (.ref id9 0)).pv 13 (.vec id 11 0 m)).pv 14 (vi (m:Nat))).pv 15 (vi (i.1.1:Nat)))) (λi=>m-i.1.1) ⟨(0,_,C),by simp,by simpa using h,g,o⟩ ?_ λi=>?_
  ·repeat' first|show Cn (.t _ _);exact Cn.t0|show Cn _;constructor|exact rfl
  clear h g o;obtain⟨⟨i,S1,C⟩,hi,h,g,o⟩:=i;simp only at hi h g o;dsimp only;have b1:=(h.arr _ _ _ y).1;rw[g]at b1;generalize ho:(out++((cQ l up).take i).flatMap λp=>p::eO l (n-1) (aG p))=o1 at h;have hg:i<m->∃p,(cQ l up)[i]?=some p:=λhi=>⟨_,zgg (by omega)⟩;have M:=h.h8;have I:=h;by_cases O:i<m
  ·obtain⟨p,hp⟩:=hg O
   have T:=jC (List.mem_of_getElem? hp);obtain⟨hn0,J⟩:=hk p T.2;have B:(cQ l up).take (i+1)=(cQ l up).take i++[p]:=by rw[List.take_add_one,hp];rfl
   have E:(o1++[p])++eO l (n-1) (aG p)=out++((cQ l up).take (i+1)).flatMap λp=>p::eO l (n-1) (aG p):=by
    rw[B,<-ho];simp
   have c:o1.length+1+(eO l (n-1) (aG p)).length<=1000000:=by
    have e1:=congrArg List.length E;have e2:cQ l up=(cQ l up).take (i+1)++(cQ l up).drop (i+1):=(List.take_append_drop _ _).symm;rw[e2,List.flatMap_append,zla]at Z;simp only[zla,List.length_singleton]at e1;omega
   rcases M with⟨h8,e8⟩|⟨F,h8,c1,c2,c3⟩
   ·subst e8
    repeat' first|apply wZ;rfl|show Cn _;constructor|apply ldR pk;rfl;rfl;rotate_left;rfl;(assumption);rfl;rfl|apply ldL pk Pt.elem (a:=p);rfl;rfl;rotate_left;rfl;(assumption);(intro _;exact hp);rfl|apply ap0 pk (f:=Pt.cells) [p] 96;(iterate 10 rfl);exactλ_=>rfl;exactλ_=>rfl;exact xY;(focus(simp;done));(focus(simp;done));rfl;intro z w|apply ixA pk;(iterate 5 rfl);rotate_left;rfl;(intro hw;(exact(show _=((i:Nat):Int)from by omega)));(intro hw;(omega));rfl;(exact Nat.zero_add _)|omega|intro h;simp at h
    have b:S1 z=none:=w;have V:id8≠z:=λe=>by rw[<-e,h8]at b;cases b
    have q:=I.push p b (S1:=S1) λj=> .inl rfl;have q9:=q.h9;apply stR pk;rfl;rfl;exact(aB V).trans h8;rfl;rfl
    repeat' first|apply wD pk [3] [0];kernel_rfl;rfl;rfl|apply Cn.cf;focus((apply oL);done)|apply cP;rfl;(apply(ih (n-1) (by omega) (aG p) _ _ _ J (by simp only[zla,List.length_singleton]at c⊢;omega) q));rintro _ st' (⟨A2,hA3,hA4⟩)|refine⟨⟨(i+1,st',A2),by simp only;omega,by simp only;rw[<-E];exact hA3,hA4 up g,λk e=>hA4 k (o k e)⟩,?_,?_⟩|show Cn (.t _ _);exact Cn.t0|apply wZ;rfl|show Cn _;constructor|exact rfl|apply ldR pk;rfl;rfl;rotate_left;rfl;(assumption);rfl;rfl|apply wY;rfl|omega|simp only[zql];omega
   ·repeat' first|apply wZ;rfl|show Cn _;constructor|apply ldR pk;rfl;rfl;rotate_left;rfl;(assumption);rfl;rfl|apply ldL pk Pt.elem (a:=p);rfl;rfl;rotate_left;rfl;(assumption);(intro _;exact hp);rfl|apply apV pk (f:=Pt.cells) [p] 96;(iterate 9 rfl);(assumption);(omega);exactλ_=>rfl;exactλ_=>rfl;exact xY;(focus(simp;omega));(focus(simp;omega));rfl;intro z w|apply ixA pk;(iterate 5 rfl);rotate_left;rfl;(intro hw;(exact(show _=((i:Nat):Int)from by omega)));(intro hw;(omega));rfl;(exact Nat.zero_add _)|omega|intro h;simp at h
    have b:S1 z=none:=w;have V:id8≠z:=λe=>by rw[<-e,h8]at b;cases b
    have m8:id8≠F:=λe=>by rw[<-e,h8]at c1;cases c1
    have q:=I.push p b (S1:=upd S1 F none) λj=>by
     by_cases e:j=F
     ·subst e
      exact .inr ⟨c2,(λe=>by rw[e,I.h5]at c1;cases c1),(λe=>by rw[e,I.h9]at c1;cases c1),(λe=>by rw[e,I.hm]at c1;cases c1),c3⟩
     ·exact .inl (aB e)
    have q9:=q.h9;apply stR pk;rfl;rfl;exact(aB V).trans ((aB m8).trans h8);rfl;rfl
    repeat' first|apply wD pk [3] [0];kernel_rfl;rfl;rfl|apply Cn.cf;focus((apply oL);done)|apply cP;rfl;(apply(ih (n-1) (by omega) (aG p) _ _ _ J (by simp only[zla,List.length_singleton]at c⊢;omega) q));rintro _ st' (⟨A2,hA3,hA4⟩)|refine⟨⟨(i+1,st',A2),by simp only;omega,by simp only;rw[<-E];exact hA3,hA4 up g,λk e=>hA4 k (o k e)⟩,?_,?_⟩|show Cn (.t _ _);exact Cn.t0|apply wZ;rfl|show Cn _;constructor|exact rfl|apply ldR pk;rfl;rfl;rotate_left;rfl;(assumption);rfl;rfl|apply wY;rfl|omega|simp only[zql];omega
  ·have u:HS st l id5 id8 id9 idm K S1 C (out++(cQ l up).flatMap λp=>p::eO l (n-1) (aG p)):=by
    rw[ztl (by omega)]at ho;rw[ho];exact h
   repeat' first|show Cn (.r _ _ _);refine .rr ?_;(exact⟨C,u,o⟩);done|apply wZ;rfl|show Cn _;constructor|omega|intro h;simp at h
 ·have Q:=h.non _ hv
  have U:cQ l up=[]:=List.Perm.eq_nil ((jM l up).trans (by rw[Q]));have u:HS st l id5 id8 id9 idm K S A (out++(cQ l up).flatMap λp=>p::eO l (n-1) (aG p)):=by
   rw[U];simpa using h
  repeat' first|apply cP;rfl;(apply aCT);(rintro _ st' rfl)|apply wZ;rfl|show Cn _;constructor|apply wY;rfl
  refine aC (X:=Unit) (λi=>((((((St.nil 28 (st')).pv 2 (.ref id8 0)).pv 3 (.ref id9 0)).pv 13 (.val (.slice none 0 0))).pv 14 (vi ((([]:List (List PV)).length:Nat):Int))).pv 15 (vi 0))) (λi=>0) () ?_ λi=>?_
  ·repeat' first|show Cn (.t _ _);exact Cn.t0|show Cn _;constructor|exact rfl
  have D:HS st l id5 id8 id9 idm K st' A (out++(cQ l up).flatMap λp=>p::eO l (n-1) (aG p)):=u
  repeat' first|show Cn (.r _ _ _);refine .rr ?_;(exact⟨A,D,λ_ h=>h⟩);done|apply wZ;rfl|show Cn _;constructor
end
end
section
set_option maxRecDepth 10000
set_option maxHeartbeats 4000000
structure Inv (l:List Pt):Prop where
 formed:∀p∈l,bM p=true
 nodup:(l.map aG).Nodup
 times:∀p∈l,∀q∈l,p.dot=q.dot->p.time=q.time
theorem vJ{α β:Type}{g:α->β}:∀{l:List α},(l.map g).Nodup->∀{a b},a∈l->b∈l->g a=g b->a=b
 |[],_,_,_,h,_,_=>by cases h
 |x::l,hn,a,b,ha,hb,e=>by
  simp only[zmp,List.nodup_cons]at hn
  rcases zmc.1 ha with ha|ha<;>rcases zmc.1 hb with hb|hb
  ·rw[ha,hb]
  ·exact(hn.1 (List.mem_map.2 ⟨b,hb,by rw[<-e,ha]⟩)).elim
  ·exact(hn.1 (List.mem_map.2 ⟨a,ha,by rw[e,hb]⟩)).elim
  ·exact vJ hn.2 ha hb e
theorem Inv.named{l:List Pt}(h:Inv l):named l:=λ_ ha _ hb e=>vJ h.nodup ha hb e
theorem axY{α:Type}{C:List α->Prop}(h0:C [])(h1:∀l p,C l->C (l++[p]))(l:List α):C l:=by
 have:∀r,C (List.reverse r):=λr=>by
  induction r with
  |nil=>exact h0
  |cons p r ih=>rw[List.reverse_cons];exact h1 _ p ih
 have:=this l.reverse;rwa[List.reverse_reverse]at this
theorem kZ{K V:Type}[DecidableEq K](f:Pt->K)(g:Pt->V)(l:List Pt)(p:Pt):(l++[p]).foldl (λm p=>cM (f p) (g p) m) []=cM (f p) (g p) (l.foldl (λm p=>cM (f p) (g p) m) []):=by
 rw[List.foldl_append];rfl
theorem amX{K V:Type}[DecidableEq K](f:Pt->K)(g:Pt->V)(k:K)(l:List Pt):
  (∀v,cC k (l.foldl (λm p=>cM (f p) (g p) m) [])=some v->∃q∈l,f q=k/\g q=v)/\(cC k (l.foldl (λm p=>cM (f p) (g p) m) [])=none->∀q∈l,f q≠k):=by
 induction l using axY with
 |h0=>exact⟨λv h=>(by cases h),λ_ q h=>(by cases h)⟩
 |h1 l p ih=>
  rw[kZ];refine⟨λv h=>?_,λh q hq=>?_⟩
  ·rw[sL]at h
   split at h
   ·rename_i e;injection h with h;exact⟨p,by simp,e.symm,h⟩
   ·obtain⟨q,hq,b⟩:=ih.1 v h;exact⟨q,by simp[hq],b⟩
  ·rw[sL]at h
   split at h
   ·cases h
   ·rename_i e
    rcases zma.1 hq with hq|hq
    ·exact ih.2 h q hq
    ·rw[zms.1 hq];exactλa=>e a.symm
theorem ahG(l:List Pt)(k:Nm):(∀v,cC k (dV l)=some v->v∈l/\aG v=k)/\(cC k (dV l)=none->∀q∈l,aG q≠k):=by
 obtain⟨e,f⟩:=amX aG id k l;exact⟨λv hv=>by obtain⟨q,a,b,c⟩:=e v hv;exact⟨c▸a,c▸b⟩,f⟩
theorem aAx(l:List Pt)(k:Dt):(∀v,cC k (eP l)=some v->∃q∈l,q.dot=k/\q.time=v)/\(cC k (eP l)=none->∀q∈l,q.dot≠k):=amX (·.dot) (·.time) k l
theorem auR{d:List Pt}(h:Inv d)(p:Pt):uM (dV d) (eP d) p=true↔(∀q∈d,aG q≠aG p)/\bM p=true/\∀q∈d,q.dot=p.dot->q.time=p.time:=by
 obtain⟨j,k⟩:=ahG d (aG p);obtain⟨b1,b2⟩:=aAx d p.dot;unfold uM;simp only[Bool.not_eq_true',Bool.or_eq_false_iff];constructor
 ·rintro⟨⟨b,c⟩,a⟩
  refine⟨k (by simpa using b),by simpa using c,λq hq e=>?_⟩;cases ht:cC p.dot (eP d)with
  |none=>exact absurd e (b2 ht q hq)
  |some t=>
   rw[ht]at a;obtain⟨r,f,g,i⟩:=b1 t ht;have:t=p.time:=by simpa using a
   rw[<-this,<-i];exact h.times q hq r f (by rw[e,g])
 ·rintro⟨b,c,a⟩
  refine⟨⟨?_,by simpa using c⟩,?_⟩
  ·cases hm:cC (aG p) (dV d)with
   |none=>rfl
   |some v=>obtain⟨c1,c2⟩:=j v hm;exact absurd c2 (b v c1)
  ·cases ht:cC p.dot (eP d)with
   |none=>rfl
   |some t=>obtain⟨r,f,g,i⟩:=b1 t ht;simp[<-i,a r f g]
theorem Inv.snoc_iff{d:List Pt}(h:Inv d)(p:Pt):Inv (d++[p])↔(∀q∈d,aG q≠aG p)/\bM p=true/\∀q∈d,q.dot=p.dot->q.time=p.time:=by
 constructor
 ·intro k
  have hn:=k.nodup;rw[List.map_append,List.nodup_append]at hn;exact⟨λq hq e=>hn.2.2 _ (List.mem_map.2 ⟨q,hq,rfl⟩) _ (by simp) e,k.formed p (by simp),λq hq e=>k.times q (by simp[hq]) p (by simp) e⟩
 ·rintro⟨f,g,c⟩
  refine⟨λq hq=>?_,?_,λa ha b hb e=>?_⟩
  ·rcases zma.1 hq with hq|hq
   ·exact h.formed q hq
   ·rw[zms.1 hq];exact g
  ·rw[List.map_append,List.nodup_append]
   refine⟨h.nodup,by simp,λa ha b hb e=>?_⟩;obtain⟨q,hq,rfl⟩:=List.mem_map.1 ha;simp only[zmp,List.map_nil,zms]at hb;exact f q hq (e.trans hb)
  ·rcases zma.1 ha with ha|ha<;>rcases zma.1 hb with hb|hb
   ·exact h.times a ha b hb e
   ·rw[zms.1 hb]at e⊢;exact c a ha e
   ·rw[zms.1 ha]at e⊢;exact(c b hb e.symm).symm
   ·rw[zms.1 ha,zms.1 hb]
theorem Inv.pre{d r:List Pt}(h:Inv (d++r)):Inv d:=by
 refine⟨λp hp=>h.formed p (by simp[hp]),?_,λp hp q hq=>h.times p (by simp[hp]) q (by simp[hq])⟩;have:=h.nodup;rw[List.map_append,List.nodup_append]at this;exact this.1
theorem uG :∀(r d:List Pt),Inv d->(kN r (dV d) (eP d)=true↔Inv (d++r))
 |[],d,h=>by simp[kN,h]
 |p::r,d,h=>by
  have c:cM (aG p) p (dV d)=dV (d++[p]):=(kZ aG id d p).symm
  have e:cM p.dot p.time (eP d)=eP (d++[p]):=(kZ (·.dot) (·.time) d p).symm
  rw[kN,zba,auR h,<-h.snoc_iff,c,e]
  have b:d++p::r=(d++[p])++r:=by simp
  constructor
  ·rintro⟨a,f⟩
   rw[b];exact(uG r _ a).1 f
  ·intro a
   rw[b]at a;exact⟨a.pre,(uG r _ a.pre).2 a⟩
structure Whole (l:List Pt):Prop extends Inv l where
 up:∀p∈l,aH p=Nm.zero\/∃u∈l,aG u=aH p/\dK u p=true
theorem eB(l:List Pt):eZ l=true↔Whole l:=by
 have h0:Inv []:=⟨λ_ h=>(by cases h),List.nodup_nil,λ_ h=>(by cases h)⟩;unfold eZ;rw[zba,show kN l [] []=kN l (dV []) (eP [])from rfl,uG l [] h0,List.nil_append,zal];have a:∀p,Inv l->(aBu (dV l) p=true↔(aH p=Nm.zero\/∃u∈l,aG u=aH p/\dK u p=true)):=λp i=>by
  obtain⟨c,f⟩:=ahG l (aH p)
  unfold aBu
  rw[Bool.or_eq_true,zde]
  refine or_congr Iff.rfl ?_
  cases hm:cC (aH p) (dV l)with
  |none=>simp only[Bool.false_eq_true,false_iff];rintro⟨u,hu,e,_⟩;exact f hm u hu e
  |some v=>
   obtain⟨c1,c2⟩:=c v hm;constructor
   ·intro h;exact⟨v,c1,c2,h⟩
   ·rintro⟨u,hu,e,h⟩
    rw[i.named v c1 u hu (by rw[c2,e])];exact h
 constructor
 ·rintro⟨b,g⟩;exact⟨b,λp hp=>(a p b).1 (g p hp)⟩
 ·intro h;exact⟨h.toInv,λp hp=>(a p h.toInv).2 (h.up p hp)⟩
instance(l :List Pt):Decidable (Whole l):=decidable_of_iff _ (eB l)
theorem jH(p q:Pt):dK p q=true↔p.time<q.time\/p.time=q.time/\(p.dot.dev<q.dot.dev\/p.dot.dev=q.dot.dev/\(p.dot.seq<q.dot.seq\/p.dot.seq=q.dot.seq/\p.at_<q.at_)):=by
 unfold dK;rw[Bool.or_eq_true,agY,zba,zde,zde,Sp.ext_iff];simp only[aM];omega
theorem aaY{p:Pt}(h:bM p=true):aG p≠Nm.zero:=by
 intro e;simp only[bM,mayN,withinB,zba,zde]at h;have a:=h.1.2.1.1.1;rw[e]at a;have b:(1:Int)<=0:=a;omega
theorem aEr{l:List Pt}(h:Whole l){u p:Pt}(hu:u∈l)(hp:p∈gA l (aG u)):p∈l/\dK u p=true:=by
 obtain⟨b,a⟩:=List.mem_filter.1 hp;have a:aH p=aG u:=by simpa using a
 refine⟨b,?_⟩;rcases h.up p b with e|⟨v,hv,e,ha⟩
 ·exact absurd (a.symm.trans e) (aaY (h.formed u hu))
 ·rw[h.named u hu v hv (by rw[e,a])];exact ha
theorem sD{l:List Pt}{f g:Pt->Bool}{a:Pt}(ha:a∈l)(hg:g a=true)(hf:f a=false)(b:∀q∈l,f q=true->g q=true):(l.filter f).length<(l.filter g).length:=by
 induction l with
 |nil=>cases ha
 |cons x l ih=>
  have i:(l.filter f).length<=(l.filter g).length:=by
   clear ih ha
   induction l with
   |nil=>simp
   |cons y l ih=>
    have:=ih λq hq=>b q (by rcases zmc.1 hq with h|h<;>simp[h]);rw[List.filter_cons,List.filter_cons];by_cases c:f y=true
    ·rw[zp c,zp (b y (by simp) c)];simp;omega
    ·rw[zn c];split<;>simp<;>omega
  rw[List.filter_cons,List.filter_cons];rcases zmc.1 ha with e|ha
  ·subst e;rw[zp hg,zn (by simp[hf])];simp;omega
  ·have:=ih ha λq hq=>b q (by simp[hq])
   by_cases c:f x=true
   ·rw[zp c,zp (b x (by simp) c)];simp;omega
   ·rw[zn c];split<;>simp<;>omega
theorem ayU{l:List Pt}(h:Whole l):∀(n:Nat)(u:Pt),u∈l->(l.filter (dK u)).length<=n->auZ l n (aG u)
 |0,u,hu,hn=>by
  show gA l (aG u)=[]
  cases hk:gA l (aG u)with
  |nil=>rfl
  |cons p r=>
   obtain⟨b,c⟩:=aEr h hu (p:=p) (by rw[hk];simp);have:p∈l.filter (dK u):=List.mem_filter.2 ⟨b,c⟩;rw[List.length_eq_zero_iff.1 (Nat.le_zero.1 hn)]at this;cases this
 |n+1,u,hu,hn=>λp hp=>by
  obtain⟨b,c⟩:=aEr h hu hp
  refine ayU h n p b ?_
  have:(l.filter (dK p)).length<(l.filter (dK u)).length:=sD (a:=p) b c (by rw[<-Bool.not_eq_true,jH];omega) λq _ hq=>by
   rw[jH]at c hq⊢;omega
  omega
theorem aoQ{l:List Pt}(h:Whole l):auZ l l.length Nm.zero:=by
 cases hl:l.length with
 |zero=>rw[List.length_eq_zero_iff.1 hl];rfl
 |succ n=>
   intro p hp;have hp:=(List.mem_filter.1 hp).1;refine ayU h n p hp ?_;have:(l.filter (dK p)).length<(l.filter λ_=>true).length:=sD hp rfl (by rw[<-Bool.not_eq_true,jH];omega) λ_ _ _=>rfl;have e:(l.filter λ_=>true)=l:=List.filter_eq_self.2 λ_ _=>rfl;rw[e]at this;omega
end
end Go.Proofs.YtnogfoojjaainaaGreatDoor.T
