import Derived.Test.YtigmnfepdlbcpaaGreatDoorAbsB
import Derived.Deep.AppendSrc
import Derived.MapKept
set_option linter.all false
namespace Go.Abs
open Go
variable{b c i n:Int}{o:Oper}{op:BinOp}{m x y z:Operand}{k:IntKind}{p q:PV}{rows:List (List PV)}{g g':G}{key v:Value}{e t tx:TypeId}{a id j sz:Nat}{cs row:List PV}{w w':World}{st:aD}{o':AObj}{Q:Exit->St->Prop}{s:St}{ok r:Bool}{es':List (Value×PV)}{l:List Oper}{K:St->Prop}
section
def softF :Nat->PV->PV
 |0,p=>match p with
  | .own _ rows=> .seq rows
  | .val (.slice none 0 0)=> .seq []
  | .emp=> .seq []
  |p=>p
 |n+1,p=>match p with
  | .own _ rows=> .seq rows
  | .val (.slice none 0 0)=> .seq []
  | .emp=> .seq []
  | .agg cs=> .agg (cs.map (softF n))
  | .tup cs=> .tup (cs.map (softF n))
  |p=>p
def soft(p:PV):PV:=softF 3 p
theorem Wk.emp :Wk .emp (.seq []):=λg v h=>by
 obtain⟨a,rfl⟩:=h
 unfold Rep
 simp
theorem abX :∀(cs:List PV){g:PV->PV},(∀q∈cs,Wk q (g q))->WkL cs (cs.map g)
 |[],_,_=> .nil
 |c::cs,g,h=> .cons (h c (by simp)) (abX _ λq hq=>h q (by grind))
theorem Wk.softF :∀(n:Nat)(p:PV),Wk p (softF n p)
 |0,p=>by
  unfold Go.Abs.softF
  split
  ·exact Wk.own _ _
  ·exact Wk.nil
  ·exact Wk.emp
  ·exact zwr _
 |n+1,p=>by
  unfold Go.Abs.softF
  split
  ·exact Wk.own _ _
  ·exact Wk.nil
  ·exact Wk.emp
  ·exact Wk.agg (abX _ λq _=>Wk.softF _ q)
  ·exact Wk.tup (abX _ λq _=>Wk.softF _ q)
  ·exact zwr _
theorem Wk.soft(p:PV):Wk p (soft p):=Wk.softF 3 p
theorem zwf(p:PV):Wk p (soft p):=Wk.soft p
theorem WkL.soft :∀(ps:List PV),WkL ps (ps.map soft)
 |[]=> .nil
 |p::ps=> .cons (Wk.soft p) (WkL.soft _)
end
section
theorem aiB(a: -9223372036854775808<=n)(b:n<=9223372036854775807):IntKind.i64.wrap n=n:=by
 simp only[IntKind.wrap,IntKind.bits,IntKind.signed,Bool.true_and]
 grind
section
variable{P:Program}{tt:TT}{l:List Oper}{d:Md}{r:List Oper}{s:St}{K:St->Prop}{t:Nat}{ty:TypeId}{pos:String}{after:Array Edge}{gd:Option (Nat×Bool)}
theorem qL{T T2:TypeId}{a:Int}(ho:o.op= .binOp op T x y T2)(hx:opd s x=some (.val (.int k a)))(hy:opd s y=some (.val (.int k b)))(hc:(op= .add/\k.wrap (a+b)=c)\/(op= .sub/\k.wrap (a-b)=c)\/(op= .mul/\k.wrap (a*b)=c)\/(op= .quo/\b≠0/\k.wrap (a.tdiv b)=c)\/(op= .rem/\b≠0/\a.tmod b=c)):OpV P o s (.val (.int k c)):=by
 refine aN λw g ρ _ hρ=>?_
 have ex:=aL (hρ x (by rw[ho];simp[Op.operands]) _ hx)
 have e:=aL (hρ y (by rw[ho];simp[Op.operands]) _ hy)
 refine⟨.int k c,fH ho (by rw[e];simp[eqGuard]) ?_,rfl⟩
 rcases hc with⟨rfl,rfl⟩|⟨rfl,rfl⟩|⟨rfl,rfl⟩|⟨rfl,hb,rfl⟩|⟨rfl,hb,rfl⟩<;>simp[binOp,Op.intArith,Op.intDiv, *]
theorem aKF{T:TypeId}{a:Int}(ho:o.op= .unOp .neg T x)(hx:opd s x=some (.val (.int k a)))(hc:k.wrap (0-a)=c):OpV P o s (.val (.int k c)):=by
 refine aN λw g ρ _ hρ=>?_;have ex:=aL (hρ x (by rw[ho];simp[Op.operands]) _ hx);exact⟨.int k c,by simp[execOp,ho,ex,Op.unary,Op.intArith,<-hc],rfl⟩
theorem aGz(htt:bI P tt){T T2:TypeId}{k2:IntKind}{a:Int}(ho:o.op= .convert T T2 x)(hx:opd s x=some (.val (.int k a)))(hT:(tiK tt T).isSome=true)(hk:tiK tt T2=some (.int k2))(hc:k2.wrap a=c):OpV P o s (.val (.int k2 c)):=by
 refine aN λw g ρ _ hρ=>?_;have ex:=aL (hρ x (by rw[ho];simp[Op.operands]) _ hx);have f:=sX (aR htt hk).1;cases b:tiK tt T with
 |none=>grind
 |some kk=>
  have hu:=(aR htt b).2;cases e:P.underlying T with
  |none=>grind
  |some dd=>
   refine⟨.int _ c,?_,rfl⟩;simp[execOp,ho,ex,convert,run_underlying e,run_underlying f,Conv.intToInt,hc]
theorem yL{T T2:TypeId}:∀z∈(Op.binOp op T x y T2).operands,z∈opl (.binOp op T x y T2):=λz hz=>aO (λ_ _ _ e=>by grind) hz
theorem aJG{T T2:TypeId}{c:IntKind}{a:Int}(hx:opd s x=some (.val (.int c a)))(hy:opd s y=some (.val (.int c b)))(hf:bS s [x,y]=true)(hd:Nat.blt t s.n=true)(ht:cX d l r=true)(k:Ev P l d r (s.pv t (.val (.int c (c.wrap (a+b))))) K):Ev P l d (⟨some t, .binOp .add T x y T2,ty,pos,after,none⟩::r) s K:=
 xD (λ_=>qL rfl hx hy (.inl ⟨rfl,rfl⟩)) yL hf hd ht k
theorem aJ5{T T2:TypeId}{c:IntKind}{a:Int}(hx:opd s x=some (.val (.int c a)))(hy:opd s y=some (.val (.int c b)))(hf:bS s [x,y]=true)(hd:Nat.blt t s.n=true)(ht:cX d l r=true)(k:Ev P l d r (s.pv t (.val (.int c (c.wrap (a-b))))) K):Ev P l d (⟨some t, .binOp .sub T x y T2,ty,pos,after,none⟩::r) s K:=
 xD (λ_=>qL rfl hx hy (.inr (.inl ⟨rfl,rfl⟩))) yL hf hd ht k
theorem aJP{T T2:TypeId}{c:IntKind}{a:Int}(hx:opd s x=some (.val (.int c a)))(hy:opd s y=some (.val (.int c b)))(hf:bS s [x,y]=true)(hd:Nat.blt t s.n=true)(ht:cX d l r=true)(k:Ev P l d r (s.pv t (.val (.int c (c.wrap (a*b))))) K):Ev P l d (⟨some t, .binOp .mul T x y T2,ty,pos,after,none⟩::r) s K:=
 xD (λ_=>qL rfl hx hy (.inr (.inr (.inl ⟨rfl,rfl⟩)))) yL hf hd ht k
theorem aIl{T T2:TypeId}{e:IntKind}{a:Int}(hx:opd s x=some (.val (.int e a)))(hy:opd s y=some (.val (.int e b)))(hb:b≠0)(hc:e.wrap (a.tdiv b)=c)(hf:bS s [x,y]=true)(hd:Nat.blt t s.n=true)(ht:cX d l r=true)(k:Ev P l d r (s.pv t (.val (.int e c))) K):Ev P l d (⟨some t, .binOp .quo T x y T2,ty,pos,after,none⟩::r) s K:=
 xD (λ_=>qL rfl hx hy (.inr (.inr (.inr (.inl ⟨rfl,hb,hc⟩))))) yL hf hd ht k
theorem aJd(htt:bI P tt){T T2:TypeId}{k1 k2:IntKind}{a:Int}(hx:opd s x=some (.val (.int k1 a)))(hT:(tiK tt T).isSome=true)(hk:tiK tt T2=some (.int k2))(hc:k2.wrap a=c)(hf:bS s [x]=true)(hd:Nat.blt t s.n=true)(ht:cX d l r=true)(k:Ev P l d r (s.pv t (.val (.int k2 c))) K):Ev P l d (⟨some t, .convert T T2 x,ty,pos,after,none⟩::r) s K:=
 xD (λ_=>aGz htt rfl hx hT hk hc) (λz hz=>aO (λ_ _ _ e=>by grind) hz) hf hd ht k
theorem nA{T T2:TypeId}{w:Bool}{e:IntKind}{a:Int}(hw:bG l ⟨some t, .binOp op T x y T2,ty,pos,after,gd⟩ s=some w)(hx:opd s x=some (.val (.int e a)))(hy:opd s y=some (.val (.int e b)))(hc:w=true->(op= .add/\e.wrap (a+b)=c)\/(op= .sub/\e.wrap (a-b)=c)\/(op= .mul/\e.wrap (a*b)=c)\/(op= .quo/\b≠0/\e.wrap (a.tdiv b)=c)\/(op= .rem/\b≠0/\a.tmod b=c))(hf:lC s w [x,y])(hd:Nat.blt t s.n=true)(ht:cX d l r=true)(k:Ev P l d r (s.put (some t) w (.pv (.val (.int e c)))) K):Ev P l d (⟨some t, .binOp op T x y T2,ty,pos,after,gd⟩::r) s K:=
 dC hw (λf _=>qL rfl hx hy (hc f)) yL hf hd ht k
theorem aKz{T T2:TypeId}{w:Bool}{a:Int}(c:Int)(hw:bG l ⟨some t, .binOp .add T x y T2,ty,pos,after,gd⟩ s=some w)(hx:opd s x=some (.val (.int .i64 a)))(hy:opd s y=some (.val (.int .i64 b)))(hf:lC s w [x,y])(hd:Nat.blt t s.n=true)(hc:w=true->a+b=c)(e:w=true-> -9223372036854775808<=c)(f:w=true->c<=9223372036854775807)(ht:cX d l r=true)(k:Ev P l d r (s.put (some t) w (.pv (.val (.int .i64 c)))) K):Ev P l d (⟨some t, .binOp .add T x y T2,ty,pos,after,gd⟩::r) s K:=
 nA hw hx hy (λh=> .inl ⟨rfl,(hc h)▸aiB ((hc h).symm▸e h) ((hc h).symm▸f h)⟩) hf hd ht k
theorem aKU{T T2:TypeId}{w:Bool}{a:Int}(c:Int)(hw:bG l ⟨some t, .binOp .sub T x y T2,ty,pos,after,gd⟩ s=some w)(hx:opd s x=some (.val (.int .i64 a)))(hy:opd s y=some (.val (.int .i64 b)))(hf:lC s w [x,y])(hd:Nat.blt t s.n=true)(hc:w=true->a-b=c)(e:w=true-> -9223372036854775808<=c)(f:w=true->c<=9223372036854775807)(ht:cX d l r=true)(k:Ev P l d r (s.put (some t) w (.pv (.val (.int .i64 c)))) K):Ev P l d (⟨some t, .binOp .sub T x y T2,ty,pos,after,gd⟩::r) s K:=
 nA hw hx hy (λh=> .inr (.inl ⟨rfl,(hc h)▸aiB ((hc h).symm▸e h) ((hc h).symm▸f h)⟩)) hf hd ht k
def gQ :PV->Option (List (List PV))
 | .seq rows=>some rows
 | .own _ rows=>some rows
 | .val (.slice none 0 0)=>some []
 | .emp=>some []
 |_=>none
theorem sW(h:gQ p=some rows)(b:Rep g p v):Rep g (.seq rows) v:=by
 unfold gQ at h;split at h
 ·grind
 ·injection h with h;subst h;exact Wk.own _ _ _ _ b
 ·injection h with h;subst h;exact Wk.nil _ _ b
 ·injection h with h;subst h;obtain⟨a,rfl⟩:=b;unfold Rep;simp
 ·cases h
theorem RepR.get{g:G}{b:Nat}{sz:Nat}:∀{rows:List (List PV)}{off:Nat}{j:Nat}{row:List PV},RepR g b off sz rows->rows[j]?=some row->row.length=sz/\RepA g b (off+j*sz) row
 |[],_,_,_,_,e=>by grind
 |r::rs,off,j,row,h,e=>by
  simp only[RepR]at h
  cases j with
  |zero=>grind
  |succ j=>
   have:=RepR.get h.2.2 e
   grind
theorem aD3(htt:bI P tt){T:TypeId}(ho:o.op= .indexAddr T x y)(hx:opd s x=some p)(hp:gQ p=some rows)(hy:opd s y=some (.val (.int k n)))(hj:n=(j:Int))(hk:tiK tt T=some (.slice e))(hs:aP tt e=some sz)(i:rows[j]?=some row)(hl:row.length=sz):OpV P o s (.rp row):=by
 refine aN λw g ρ _ hρ=>?_
 have z:=sW hp (hρ x (by rw[ho];simp[Op.operands]) _ hx)
 have m:=aL (hρ y (by rw[ho];simp[Op.operands]) _ hy)
 have⟨a,cap,ex,_,_,h4⟩:=z
 rcases h4 with h4|⟨b,off,h,rfl,u⟩
 ·subst h4;simp at i
 ·have⟨A,q⟩:=u.get i
  have f:h=sz:=by omega
  subst f;have v:j<rows.length:=by grind
  have hu:=cD (aR htt hk).1;refine⟨.pointer _,?_,by simp only[Rep];exact⟨b,_,rfl,q⟩⟩;subst hj;have c:(0:Int)<=(j:Int)/\(j:Int)<(rows.length:Int):=by omega
  simp only[execOp,ho,Instr.indexAt,m,ex,asIntOf,Sem.run_bind,Sem.run_pure,Result.andThen_ok,run_underlying hu];rw[zp c];simp only[Sem.run_bind,aZ (aQ htt hs).1,Result.andThen_ok,Sem.run_pure,zin,dA]
theorem aEB(htt:bI P tt){T:TypeId}{w:Bool}{c:IntKind}(hw:bG l ⟨some t, .indexAddr T x y,ty,pos,after,gd⟩ s=some w)(hx:opd s x=some p)(hp:gQ p=some rows)(hy:opd s y=some (.val (.int c n)))(hk:tiK tt T=some (.slice e))(hs:aP tt e=some sz)(hf:lC s w [x,y])(hd:Nat.blt t s.n=true)(hj:w=true->n=(j:Int))(b:w=true->rows[j]?=some row)(hl:w=true->row.length=sz)(ht:cX d l r=true)(k:Ev P l d r (s.put (some t) w (.pv (.rp row))) K):Ev P l d (⟨some t, .indexAddr T x y,ty,pos,after,gd⟩::r) s K:=
 dC hw (λa _=>aD3 htt rfl hx hp hy (hj a) hk hs (b a) (hl a)) (λz hz=>aO (λ_ _ _ e=>by grind) hz) hf hd ht k
end
end
section
section
variable{P:Program}{tt:TT}
theorem SI.step{c:Ctx}{s:St}{a:Act}{w w':World}{g g':G}{lam:Nat->Nat}(hs:SI P c s a w g lam){st':aD}(hm:MemOK P st' w' g')(hl:Le g g')(hf:Frame (Blocks s.st g) w g w' g')
  (hb:∀b,Blocks st' g' b->Blocks s.st g b\/w.heap.size<=b):SI P c (s.sst (st')) a w' g' lam where
 mem:=hm
 le:=hs.le.trans hl
 frame:=hs.frame.trans hf λb hb h=>(hs.blk b h).resolve_right (by omega)
 blk b h:=by
  rcases hb b h with h|h
  ·exact hs.blk b h
  ·have:=hs.frame.size;omega
 env t:=(hs.env t).mono hl
 box t T cs e:=by
  have⟨vs,i,k,m,h4,h5⟩:=hs.box t T _ e;have f:=by have:=bQ i;rwa[hs.mem.heap]at this
  have⟨k1,k2,_⟩:=hf.old _ f h5;refine⟨vs,?_,RepL.mono hl _ _ k,k2.trans m,h4,λh=>?_⟩
  ·rw[hm.heap,k1,<-hs.mem.heap];exact i
  ·rcases hb _ h with h|h
   ·exact h5 h
   ·omega
 inj:=hs.inj
 ad:=hs.ad
 adL:=hs.adL
 defers:=hs.defers.mono rfl λD j=>by
  have f:=bQ j
  rw[hs.mem.heap]at f
  rw[hm.heap,(hf.old D f (uJ hs.mem j)).1,hs.mem.heap]
 top:=hs.top
 n:=hs.n
section
variable{l:List Oper}{r:List Oper}{s:St}{K:St->Prop}{t:Nat}{dst:Option Nat}{ty:TypeId}{pos:String}{after:Array Edge}{gd:Option (Nat×Bool)}
theorem aHw(hg:o.guard=none)(h:∀c a w g lam,SI P c s a w g lam->OpRes P (λv w'=>∃e g' b,Ev P l .seq r e K/\SI P c e (a.put o.dst v) w' g' b) ((execOp a.eval o).run P w)):Ev P l .seq (o::r) s K:=by
 intro c a w g lam hs i Q f;unfold yV;have hw:Region.wanted o (yielded l.toArray a.tmps)=true:=by simp[Region.wanted,hg]
 rw[hw];refine dO (h c a w g _ hs) ?_;rintro v w' ⟨e,g',b,h1,h2⟩;exact f _ _ _ _ _ h1 h2
theorem RepR.vals{g:G}{b sz:Nat}:∀{rows:List (List PV)}{off:Nat},RepR g b off sz rows->∃vs,RepL g rows.flatten vs/\vs.length=rows.length*sz/\∀j v,vs[j]?=some v->bB g.heap b (off+j)=some v/\off+j<g.fr b
 |[],_,_=>⟨[],by simp[RepL],by simp,by simp⟩
 |r::rs,off,h=>by
  simp only[RepR]at h
  have⟨k,m,n⟩:=h
  have key:∀{cs:List PV}{o:Nat},RepA g b o cs->∃vs,RepL g cs vs/\∀j v,vs[j]?=some v->bB g.heap b (o+j)=some v/\o+j<g.fr b:=by
   intro cs
   induction cs with
   |nil=>intro o _;exact⟨[],by simp[RepL],by simp⟩
   |cons c cs ih=>
    intro o hh;simp only[RepA]at hh;obtain⟨⟨v,y,z,f⟩,i⟩:=hh;have⟨vs,k1,k2⟩:=ih i;refine⟨v::vs,by simp only[RepL];exact⟨v,vs,rfl,f,k1⟩,λj u hj=>?_⟩
    grind
  have⟨p,e,w⟩:=key m
  have⟨q,b1,b2,x⟩:=RepR.vals n
  have a:=e.length
  refine⟨p++q,by simp only[List.flatten_cons];exact e.append b1,by simp[b2,a,k,Nat.add_mul];omega,λj v hj=>?_⟩
  grind
theorem RepR.mk {g:G} {b sz:Nat}:∀{rows:List (List PV)} {off:Nat} {vs:List Value},(∀r∈rows,r.length=sz)->RepL g rows.flatten vs->(∀j v,vs[j]?=some v->bB g.heap b (off+j)=some v/\off+j<g.fr b)->RepR g b off sz rows
 |[],_,_,_,_,_=>by simp [RepR]
 |r::rs,off,vs,h,hr,hc=>by
  have key:∀{cs:List PV} {o:Nat} {us:List Value},RepL g cs us->(∀j v,us[j]?=some v->bB g.heap b (o+j)=some v/\o+j<g.fr b)->RepA g b o cs:=by
   intro cs
   induction cs with
   |nil=>intro o us _ _;simp [RepA]
   |cons c cs ih=>
    intro o us hh hcc
    simp only [RepL] at hh
    obtain ⟨v,us',rfl,e1,e2⟩:=hh
    simp only [RepA]
    refine ⟨⟨v,by simpa using (hcc 0 v (by simp)).1,by simpa using (hcc 0 v (by simp)).2,e1⟩,ih e2 λj u hj=> ?_⟩
    have:=hcc (j+1) u (by simpa using hj)
    rwa [show o+(j+1)=o+1+j from by omega] at this
  simp only [List.flatten_cons] at hr
  have hl:=hr.length
  have h1:RepL g r (vs.take r.length):=by have:=hr.take r.length;simpa using this
  have h2:RepL g rs.flatten (vs.drop r.length):=by have:=hr.drop r.length;simpa using this
  simp only [RepR]
  have hrl:=h r (by simp)
  refine ⟨hrl,key h1 λj v hj=> ?_,RepR.mk (λr' hr'=>h r' (by simp [hr'])) h2 λj v hj=> ?_⟩
  ·rw [List.getElem?_take] at hj
   split at hj
   ·exact hc j v hj
   ·cases hj
  ·rw [List.getElem?_drop] at hj
   have:=hc _ v hj
   rwa [show off+(r.length+j)=off+sz+j from by omega] at this
theorem aoJ(htt:bI P tt)(hm:MemOK P st w g){x:Value}(hp:gQ p=some rows)(q:Rep g p x)(hk:dM tt tx=true)(hl:∀r∈rows,r.length=sz)(z:∀r∈rows,r.all PV.one=true):
  ∃news,Src P sz tx x rows.length news w/\RepL g rows.flatten news:=by
 have hu:∃k,P.underlying tx=some (.slice k):=by
  unfold dM at hk;split at hk
  ·rename_i e o;exact⟨e,cD (aR htt o).1⟩
  ·cases hk
 have⟨k,hu⟩:=hu
 have f:=sW hp q
 obtain⟨a,cap,rfl,_,_,h4⟩:=f
 have ones:∀vs,RepL g rows.flatten vs->∀u∈vs,u.oneCell'=true:=λvs hv=>hv.ones (by grind)
 have c:rows=[]->∃news,Src P sz tx (.slice a rows.length cap) rows.length news w/\RepL g rows.flatten news:=λh0=>by
  subst h0
  refine⟨[],?_,by simp[RepL]⟩
  cases a with
  |none=>exact Src.ofNil w hu cap
  |some a=>exact Src.ofSlice w hu a 0 cap [] (by simp) (by simp) (by simp)
 rcases h4 with h4|⟨b,off,i,rfl,m⟩
 ·exact c h4
 ·have⟨vs,n,v,y⟩:=m.vals
  by_cases h0:rows=[]
  ·exact c h0
  ·have h:i=sz:=by
    cases rows with
    |nil=>exact absurd rfl h0
    |cons r rs=>simp only[RepR]at m;have:=hl r (by simp);omega
   subst h;exact⟨vs,Src.ofSlice w hu ⟨b,off,none⟩ rows.length cap vs v (λj u hj=>by rw[dA];exact nI hm (y j u hj).1) (ones vs n),n⟩
theorem lM(hm:MemOK P st w g):∃id,g.io id=none/\st id=none:=by
 have⟨N,a⟩:=hm.fin;refine⟨N,a N (znr _),?_⟩;cases h:st N with
 |none=>rfl
 |some o=>have⟨x,hx⟩:=aaN (hm.obj N o h);grind
theorem iZ(hm:MemOK P st w g){b' n' cap':Nat}(hf:g.io a=none)(hh:g'.heap=w'.heap)(y:g'.io=upd g.io a (some (b',n',cap')))(D:cap'≠0->(Go.Abs.blk g id=some b'/\st id≠none)\/b'=w.heap.size)(u:∀b,b<w.heap.size->cap'=0\/b≠b'->w'.heap[b]?=w.heap[b]?)(H:∀b,cap'=0\/b≠b'->g'.fr b=g.fr b)(E:g'.fm=g.fm)(F:cap'≠0->¬g.fm b')(W:w.heap.size<=w'.heap.size)(M:cap'≠0->b'<w'.heap.size)(hl:Le g g')(ho:ObjOK P g' a o'):
  MemOK P (upd (upd st id none) a (some o')) w' g':=by
 have T:st a=none:=by
  cases h:st a with
  |none=>rfl
  |some o=>have⟨x,hx⟩:=aaN (hm.obj a o h);rw[hf]at hx;cases hx
 have p:∀{j b},st j≠none->Go.Abs.blk g j=some b->b<w.heap.size:=fun{j b} i f=>by
  cases h:st j with
  |none=>exact absurd h i
  |some o=>
   have S:=hm.obj j o h;have:∃x,g.heap[b]?=some x:=by have⟨x,hx,_⟩:=xF S f;exact⟨x,hx⟩
   have⟨x,hx⟩:=this;have:=bQ hx;rwa[hm.heap]at this
 have z:∀{j b},j≠id->st j≠none->Go.Abs.blk g j=some b->cap'≠0->b≠b':=fun{j b} i f h3 h4 e=>by
  subst e
  rcases D h4 with⟨k1,k2⟩|k
  ·exact i (hm.inj j id b f k2 h3 k1)
  ·have:=p f h3;omega
 have c:∀{j},j≠a->Go.Abs.blk g' j=Go.Abs.blk g j:=fun{j} h=>by
  unfold Go.Abs.blk;rw[y,aB h]
 have q:∀j,upd (upd st id none) a (some o') j=if j=a then some o' else if j=id then none else st j:=λj=>by
  by_cases i:j=a
  ·rw[i,aA,zp rfl]
  ·rw[aB i,zn i]
   by_cases f:j=id
   ·rw[f,aA,zp rfl]
   ·rw[aB f,zn f]
 have n:∀{b},Go.Abs.blk g' a=some b->cap'≠0/\b=b':=fun{b} h=>by
  unfold Go.Abs.blk at h;rw[y,aA]at h;simp at h;exact⟨h.1,h.2.symm⟩
 refine⟨hh,λj o e=>?_,λj j' b e m i f=>?_,λb hb=>?_,λb hb=>?_,?_⟩
 ·rw[q]at e
  split at e
  ·rename_i h;injection e with e;subst e;rw[h];exact ho
  ·rename_i i
   split at e
   ·cases e
   ·rename_i f
    refine(hm.obj j o e).keep hl λb hb=>?_;have R:=p (by rw[e];simp) hb;have hc:cap'=0\/b≠b':=by
     by_cases hc:cap'=0
     ·exact .inl hc
     ·exact .inr (z f (by rw[e];simp) hb hc)
    exact⟨by rw[hh,u b R hc,hm.heap],H b hc,by rw[E]⟩
 ·rw[q]at e m
  by_cases L:j=a
  ·by_cases A:j'=a
   ·rw[L,A]
   ·exfalso
    rw[zn A]at m;by_cases B:j'=id
    ·rw[zp B]at m;exact m rfl
    ·rw[zn B]at m
     rw[L]at i;have⟨c1,c2⟩:=n i;rw[c A]at f;exact z B m f c1 c2
  ·rw[zn L]at e
   by_cases B:j=id
   ·rw[zp B]at e;exact absurd rfl e
   ·rw[zn B]at e
    rw[c L]at i;by_cases A:j'=a
    ·exfalso
     rw[A]at f;have⟨c1,c2⟩:=n f;exact z B e i c1 c2
    ·rw[zn A]at m
     by_cases U:j'=id
     ·rw[zp U]at m;exact absurd rfl m
     ·rw[zn U]at m
      rw[c A]at f;exact hm.inj j j' b e m i f
 ·by_cases hc:cap'=0\/b≠b'
  ·rw[H b hc]at hb;have:=hm.lt b hb;omega
  ·have O:cap'≠0:=λe=>hc (.inl e)
   have Q:b=b':=Classical.byContradiction λe=>hc (.inr e);rw[Q];exact M O
 ·rw[E]at hb
  have⟨C,v,e,J⟩:=hm.fmm b hb;have I:cap'=0\/b≠b':=by
   by_cases hc:cap'=0
   ·exact .inl hc
   ·exact .inr λe=>F hc (e▸hb)
  exact⟨C,v,by rw[u b (bQ e) I];exact e,J⟩
 ·have⟨N,V⟩:=hm.fin
  exact⟨max N (a+1),λj hj=>by rw[y,aB (by omega)];exact V j (by omega)⟩
theorem wE(T tx ty e:TypeId)(i:TypeInfo)(ht:P.underlying T=some (.slice e))(hi:P.info? e=some i)(b a c:Nat)(cur:Array Value)(hg:w.heap[b]?=some (.cells cur e (0,0)))(x:Value)(n:Nat)(news:List Value)(hs:Src P i.size tx x n news w)(f:a+n<=c)(h:a*i.size+news.length<=cur.size):
  (Builtin.append_ #[T,tx] ty #[.slice (some ⟨b,0,none⟩) a c,x]).run P w= .ok (.slice (some ⟨b,0,none⟩) (a+n) c) (w.setRow b (cur.toList.take (a*i.size)++news++cur.toList.drop (a*i.size+news.length)).toArray):=by
 have g:=run_storeCells_at P b (a*i.size) e news 0 cur w hg ‹_› hs.one
 rcases hs.kind with⟨e',hk⟩|hk<;>simp[Builtin.append_,run_underlying ht,run_underlying hk,sizeOf,typeInfo,hi,hs.len,f,hs.cells,Addr.add_lit,g]
theorem sE(T tx ty e:TypeId)(i:TypeInfo)(ht:P.underlying T=some (.slice e))(hi:P.info? e=some i)(a:Option Addr)(x:Value)(hs:Src P i.size tx x 0 [] w):
  (Builtin.append_ #[T,tx] ty #[.slice a 0 0,x]).run P w= .ok (.slice a 0 0) w:=by
 rcases hs.kind with⟨e',hk⟩|hk<;>cases a<;>simp[Builtin.append_,run_underlying ht,run_underlying hk,sizeOf,typeInfo,hi,hs.len,hs.cells,storeCells]
theorem wS(w:World)(b:Nat)(cur xs:Array Value)(T:TypeId)(a:Nat×Nat)(h:w.heap[b]?=some (.cells cur T a))(j:Nat):bB (w.setRow b xs).heap b j=xs[j]?:=by
 simp only[bB,setRow_heap w b _ _ T _ h]
theorem pG{x:Nat×Nat×Nat}(h:g.io a=none):∀j v,g.io j=some v->upd g.io a (some x) j=some v:=λj v hj=>by
 have b:j≠a:=λe=>by grind
 rw[aB b];exact hj
theorem aAt(htt:bI P tt)(hm:MemOK P st w g){T T2 ty:TypeId}{c:List (List PV)}{x y:Value}{B:Nat}(M:st id=some (.tok e))(hx:Rep g (.own id rows) x)(hp:gQ p=some c)(hy:Rep g p y)(hk:tiK tt T=some (.slice e))(hk2:dM tt T2=true)(hs:aP tt e=some sz)(N:∀r∈rows,r.length=sz)(S:∀r∈c,r.length=sz)(h1:∀r∈c,r.all PV.one=true)(hB:P.bytesOf e=B)(hb:(rows.length+c.length)*B<=140737488355328)(hz:(tiZ tt e).map List.length=some sz)(Y:rows.length+c.length<2^62):
  ∃v w' g' m,(Builtin.append_ #[T,T2] ty #[x,y]).run P w= .ok v w'/\g.io m=none/\Rep g' (.own m (rows++c)) v/\MemOK P (upd (upd st id none) m (some (.tok e))) w' g'/\Le g g'/\Frame (Blocks st g) w g w' g'/\
   (∀b,Blocks (upd (upd st id none) m (some (.tok e))) g' b->Blocks st g b\/w.heap.size<=b):=by
 have⟨news,I,hnr⟩:=aoJ htt hm hp hy hk2 S h1
 have hu:=cD (aR htt hk).1
 have⟨k1,k2⟩:=aQ htt hs
 cases hi:P.info? e with
 |none=>rw[hi]at k1;cases k1
 |some i=>
  have hsz:i.size=sz:=by rw[hi]at k1;simpa using k1
  have hby:i.bytes=B:=by rw[<-hB];simp[Program.bytesOf,hi]
  subst hsz;subst hby;have⟨m,o,hf2⟩:=lM hm;have U:=I.newsLen;simp only[Rep]at hx;have⟨b,cap,sz',e1,e2,e3,e4⟩:=hx;have htk:=hm.obj id _ M;simp only[ObjOK]at htk;have⟨b0,n0,cap0,t1,t2⟩:=htk;rw[e1]at t1;injection t1 with t1
  injection t1 with t1 t3
  injection t3 with t3 t4
  subst t1;subst t3;subst t4;have D:∀st' g',(∀j,j≠m->Go.Abs.blk g' j=Go.Abs.blk g j)->(∀b',Go.Abs.blk g' m=some b'->Blocks st g b'\/w.heap.size<=b')->st'=upd (upd st id none) m (some (.tok e))->∀b',Blocks st' g' b'->Blocks st g b'\/w.heap.size<=b':=by
   rintro st' g' q1 q2 rfl b' ⟨j,j1,j2⟩;by_cases hj:j=m
   ·rw[hj]at j2;exact q2 b' j2
   ·rw[aB hj]at j1
    rw[q1 j hj]at j2;by_cases hj2:j=id
    ·rw[hj2,aA]at j1;exact absurd rfl j1
    ·rw[aB hj2]at j1;exact .inl ⟨j,j1,j2⟩
  have C:∀(g':G)(v:Nat×Nat×Nat),g'.io=upd g.io m (some v)->∀j,j≠m->Go.Abs.blk g' j=Go.Abs.blk g j:=λg' v q j hj=>by unfold Go.Abs.blk;rw[q,aB hj]
  by_cases F:rows.length+c.length<=cap
  ·by_cases hc:cap=0
   ·
    have r0:rows=[]:=List.length_eq_zero_iff.1 (by omega);have r2:c=[]:=List.length_eq_zero_iff.1 (by omega);subst r0;subst r2;rcases e4 with⟨_,a,rfl⟩|⟨hne,_⟩
    ·have E:news=[]:=List.length_eq_zero_iff.1 (by simpa using U)
     subst E;have hl:Le g {g with io:=upd g.io m (some (b,0,0))}:=⟨pG o,λ_=>znr _,λ_ _ _=>rfl,λ_ h=>⟨h,rfl⟩⟩;refine⟨_,w,{g with io:=upd g.io m (some (b,0,0))},m,sE T T2 ty e i hu hi a y I,o,?_,?_,hl,⟨rfl,⟨rfl,znr _⟩,rfl,znr _,λ_ _ _=>⟨rfl,rfl,Iff.rfl⟩⟩,D _ _ (C _ _ rfl) (λb' h=>by simp[Go.Abs.blk,aA]at h) rfl⟩
     ·simp only[Rep];exact⟨b,0,i.size,aA _ _ _,by simp,by simp, .inl ⟨rfl,a,rfl⟩⟩
     ·exact iZ hm (id:=id) o hm.heap rfl (λh=>absurd rfl h) (λ_ _ _=>rfl) (λ_ _=>rfl) rfl (λh=>absurd rfl h) (znr _) (λh=>absurd rfl h) hl (by simp only[ObjOK];exact⟨b,0,0,aA _ _ _, .inl rfl⟩)
    ·exact absurd hc hne
   ·
    rcases e4 with⟨h0,_⟩|⟨_,rfl,Z⟩
    ·exact absurd h0 hc
    rcases t2 with h0|⟨cur,c1,c2,c3⟩
    ·exact absurd h0 hc
    have n:=c1;rw[hm.heap]at n;rw[k2]at c2 c3;have hle1:rows.length*i.size+news.length<=cur.size:=by
     rw[U,c2,<-Nat.add_mul];exact Nat.mul_le_mul_right _ F
    have L:=wE T T2 ty e i hu hi b rows.length cap cur n y c.length news I F hle1;have hbl:Go.Abs.blk g id=some b:=by simp[Go.Abs.blk,e1,hc]
    have hbB:Blocks st g b:=⟨id,by rw[M];simp,hbl⟩;have hbsz:b<w.heap.size:=bQ n;have H:¬g.fm b:=λh=>by have⟨en,cl,q,_⟩:=hm.fmm b h;rw[n]at q;cases q
    let xs:Array Value:=(cur.toList.take (rows.length*i.size)++news++cur.toList.drop (rows.length*i.size+news.length)).toArray
    let w':=w.setRow b xs
    let g':G:=⟨w'.heap,upd g.io m (some (b,rows.length+c.length,cap)),upd g.fr b ((rows.length+c.length)*i.size),g.fm⟩
    have hxs:∀j,j<rows.length*i.size->xs[j]?=cur[j]?:=λj hj=>by
     show(_:List Value).toArray[j]?=_
     simp only[List.getElem?_toArray]
     rw[zas,List.getElem?_append_left (by simp;omega),List.getElem?_take,zp hj]
     simp
    have E:∀j v,news[j]?=some v->xs[rows.length*i.size+j]?=some v:=λj v hj=>by
     have R:j<news.length:=by
      rcases Nat.lt_or_ge j news.length with h|h
      ·exact h
      ·rw[List.getElem?_eq_none h]at hj;cases hj
     show(_:List Value).toArray[rows.length*i.size+j]?=_
     simp only[List.getElem?_toArray]
     have ht:(cur.toList.take (rows.length*i.size)).length=rows.length*i.size:=by simp;omega
     rw[zas,List.getElem?_append_right (by rw[ht];omega),ht,List.getElem?_append_left (by omega)]
     rw[show rows.length*i.size+j-rows.length*i.size=j from by omega];exact hj
    have hl:Le g g':=⟨pG o,λk=>by
      show g.fr k<=upd g.fr b _ k
      by_cases h:k=b
      ·rw[h,aA,c3];exact Nat.mul_le_mul_right _ (by omega)
      ·rw[aB h];exact znr _,
     λk j hj=>by
      show bB (w.setRow b xs).heap k j=bB g.heap k j
      rw[hm.heap]
      by_cases h:k=b
      ·subst h
       have hj':j<rows.length*i.size:=by rw[<-c3];exact hj
       rw[wS w k cur xs e (0,0) n,hxs j hj'];simp only[bB,n]
      ·simp only[bB,bX w b xs k h],
     λk hk=>⟨hk,by
      show(w.setRow b xs).heap[k]?=g.heap[k]?
      rw[hm.heap];exact bX w b xs k λe=>H (e▸hk)⟩⟩
    refine⟨_,w',g',m,L,o,?_,?_,hl,⟨rfl,⟨rfl,znr _⟩,rfl,by show _<=(w.setRow b xs).heap.size;simp[World.setRow],λk hk hn=>?_⟩,D _ _ (C _ _ rfl) (λb' h=>?_) rfl⟩
    ·simp only[Rep]
     refine⟨b,cap,i.size,by rw[zla];exact aA _ _ _,by rw[zla];exact F,by rw[zla];exact Y, .inr ⟨hc,by rw[zla],?_⟩⟩;have⟨vs,v1,v2,v3⟩:=Z.vals;have hsz':rows=[]\/sz'=i.size:=by
      cases rows with
      |nil=>exact .inl rfl
      |cons r rs=>right;simp only[RepR]at Z;have:=N r (by simp);omega
     have V:vs.length=rows.length*i.size:=by
      rcases hsz' with h|h
      ·subst h;simpa using v2
      ·rw[v2,h]
     refine RepR.mk (vs:=vs++news) (λr hr=>?_) (by rw[List.flatten_append];exact(RepL.mono hl _ _ v1).append (RepL.mono hl _ _ hnr)) λj v hj=>?_
     ·rcases zma.1 hr with h|h
      ·exact N r h
      ·exact S r h
     ·rw[Nat.zero_add]
      show bB (w.setRow b xs).heap b j=some v/\j<upd g.fr b _ b;rw[wS w b cur xs e (0,0) n,aA];rcases Nat.lt_or_ge j vs.length with h|h
      ·rw[List.getElem?_append_left h]at hj
       have:=v3 j v hj;rw[Nat.zero_add,hm.heap]at this;refine⟨?_,by have:=Nat.mul_le_mul_right i.size (show rows.length<=rows.length+c.length from by omega);omega⟩;rw[hxs j (by omega)];have:=this.1
       simpa only[bB,n]using this
      ·rw[List.getElem?_append_right h]at hj
       have R:j-vs.length<news.length:=by
        rcases Nat.lt_or_ge (j-vs.length) news.length with h|h
        ·exact h
        ·rw[List.getElem?_eq_none h]at hj;cases hj
       have:=E _ v hj;rw[show rows.length*i.size+(j-vs.length)=j from by omega]at this;exact⟨this,by rw[Nat.add_mul];omega⟩
    ·refine iZ hm (id:=id) o rfl rfl (λ_=> .inl ⟨hbl,by rw[M];simp⟩) (λk _ h=>bX w b xs k (h.resolve_left hc)) (λk h=>aB (h.resolve_left hc)) rfl (λ_=>H)
      (by show _<=(w.setRow b xs).heap.size;simp[World.setRow]) (λ_=>by show b<(w.setRow b xs).heap.size;simpa[World.setRow]using hbsz) hl ?_
     simp only[ObjOK];refine⟨b,_,cap,aA _ _ _, .inr ⟨xs,setRow_heap w b cur xs e (0,0) n,?_,by rw[k2];exact aA _ _ _⟩⟩;rw[k2,<-c2];show(_:List Value).toArray.size=_;simp;omega
    ·have hkb:k≠b:=λe=>hn (e▸hbB)
     exact⟨bX w b xs k hkb,aB hkb,Iff.rfl⟩
    ·simp[Go.Abs.blk,g',aA]at h
     rw[<-h.2];exact .inl hbB
  ·
   cases W:tiZ tt e with
   |none=>rw[W]at hz;cases hz
   |some zl=>
    rw[W]at hz;simp only[Option.map_some,Option.some.injEq]at hz;have⟨z,z1,z2⟩:=nH htt W;have hiz:i.zero=some z:=by rw[hi]at z1;simpa using z1
    have hzs:z.cells.size=i.size:=by rw[<-hz,<-z2];simp
    have hg:cap<rows.length+c.length:=by omega
    have hfit:=growslice_fits hg hb;have h63:((rows.length+c.length:Nat):Int)<=9223372036854775807:=by omega
    have hold:∃f,(Builtin.firstCells i.size rows.length x).run P w.drew= .ok f.toArray w.drew/\RepL g rows.flatten f/\f.length=rows.length*i.size/\(∃J,x= .slice J rows.length cap):=by
     rcases e4 with⟨h0,a,rfl⟩|⟨_,rfl,Z⟩
     ·have r0:rows=[]:=List.length_eq_zero_iff.1 (by omega)
      subst r0;subst h0;refine⟨[],?_,by simp[RepL],by simp,a,rfl⟩;cases a<;>simp[Builtin.firstCells,loadCells,loadCellsFrom]
     ·have⟨vs,v1,v2,v3⟩:=Z.vals
      have V:vs.length=rows.length*i.size:=by
       cases rows with
       |nil=>simpa using v2
       |cons r rs=>simp only[RepR]at Z;have:=N r (by simp);rw[v2];congr 1;omega
      refine⟨vs,run_firstCells_some w.drew i.size rows.length ⟨b,0,none⟩ rows.length cap vs V λj u hj=>?_,v1,V,_,rfl⟩;rw[dA];exact nI hm (v3 j u hj).1
    obtain⟨f,o1,o2,o3,J,rfl⟩:=hold;have L:=run_append_grow_src w T T2 ty e i z hu hi hiz J rows.length cap f o1 y c.length news I hg h63 hfit
    let X:=grownCap w (rows.length+c.length) cap e
    have hnc:rows.length+c.length<=X:=by show _<=grownCap _ _ _ _;simp only[grownCap,Question.cut];omega
    have O:X≠0:=by omega
    let xs:Array Value:=(f++news).toArray++Builtin.zeroCells z.cells (X-(rows.length+c.length))
    let w':=w.drew.alloc (.cells xs e)
    let g':G:=⟨w'.heap,upd g.io m (some (w.heap.size,rows.length+c.length,X)),upd g.fr w.heap.size ((rows.length+c.length)*i.size),g.fm⟩
    have A:∀k,k<w.heap.size->w'.heap[k]?=w.heap[k]?:=λk hk=>RowKit.Below.heap_alloc w.drew _ k hk;have Q:w'.heap[w.heap.size]?=some (.cells xs e (0,0)):=by show(w.heap.push _)[w.heap.size]?=_;simp
    have hfr0:g.fr w.heap.size=0:=by
     rcases Nat.eq_zero_or_pos (g.fr w.heap.size)with h|h
     ·exact h
     ·have:=hm.lt w.heap.size (by omega);omega
    have H:¬g.fm w.heap.size:=λh=>by have⟨en,cl,q,_⟩:=hm.fmm _ h;have:=bQ q;omega
    have hl:Le g g':=⟨pG o,λk=>by
      show g.fr k<=upd g.fr w.heap.size _ k
      by_cases h:k=w.heap.size
      ·rw[h,hfr0];omega
      ·rw[aB h];exact znr _,
     λk j hj=>by
      have hk:k<w.heap.size:=hm.lt k (by omega)
      show bB w'.heap k j=bB g.heap k j
      rw[hm.heap]
      simp only[bB,A k hk],
     λk hk=>⟨hk,by
      have⟨en,cl,q,_⟩:=hm.fmm k hk
      show w'.heap[k]?=g.heap[k]?
      rw[hm.heap];exact A k (bQ q)⟩⟩
    have hws:w'.heap.size=w.heap.size+1:=by show(w.heap.push _).size=_;simp
    have hlen:(f++news).length=(rows.length+c.length)*i.size:=by rw[zla,o3,U,Nat.add_mul]
    refine⟨_,w',g',m,L,o,?_,?_,hl,⟨rfl,⟨rfl,Nat.le_succ _⟩,rfl,by omega,λk hk hn=>⟨A k hk,aB (by omega),Iff.rfl⟩⟩,D _ _ (C _ _ rfl) (λb' h=>?_) rfl⟩
    ·simp only[Rep]
     refine⟨w.heap.size,X,i.size,by rw[zla];exact aA _ _ _,by rw[zla];exact hnc,by rw[zla];exact Y, .inr ⟨O,by rw[zla],?_⟩⟩;refine RepR.mk (vs:=f++news) (λr hr=>?_) (by rw[List.flatten_append];exact(RepL.mono hl _ _ o2).append (RepL.mono hl _ _ hnr)) λj v hj=>?_
     ·rcases zma.1 hr with h|h
      ·exact N r h
      ·exact S r h
     ·have R:j<(f++news).length:=by
       rcases Nat.lt_or_ge j (f++news).length with h|h
       ·exact h
       ·rw[List.getElem?_eq_none h]at hj;cases hj
      rw[Nat.zero_add];show bB w'.heap w.heap.size j=some v/\j<upd g.fr w.heap.size _ w.heap.size;rw[aA];refine⟨?_,by omega⟩;simp only[bB,Q];show((f++news).toArray++_)[j]?=_;rw[Array.getElem?_append_left (by simpa using R)]
      simpa using hj
    ·refine iZ hm (id:=id) o rfl rfl (λ_=> .inr rfl) (λk hk _=>A k hk) (λk h=>aB (h.resolve_left O)) rfl (λ_=>H) (by omega) (λ_=>by omega) hl ?_
     simp only[ObjOK];refine⟨w.heap.size,_,X,aA _ _ _, .inr ⟨xs,Q,?_,by rw[k2];exact aA _ _ _⟩⟩;rw[k2];show((f++news).toArray++Builtin.zeroCells z.cells (X-(rows.length+c.length))).size=_;rw[Array.size_append,size_zeroCells,hzs,List.size_toArray,hlen,<-Nat.add_mul]
     congr 1;omega
    ·simp[Go.Abs.blk,g',aA]at h
     right;omega
section
variable{l:List Oper}{r:List Oper}{s:St}{K:St->Prop}{t:Nat}{ty:TypeId}{pos:String}{after:Array Edge}
end
theorem yQ{x:Code}{s:St}(t:Nat)(e:TypeId)(hx:s.env t=(true, .pv (.val (.slice none 0 0))))(hd:Nat.blt t s.n=true)(k:∀id,s.st id=none->PWp P x Q ((s.sst (upd s.st id (some (.tok e)))).pv t (.own id []))):PWp P x Q s:=by
 intro c a w g lam hs;have⟨f,o,u⟩:=lM hs.mem
 let g':G:={g with io:=upd g.io f (some (0,0,0))}
 have hl:Le g g':=⟨pG o,λ_=>znr _,λ_ _ _=>rfl,λ_ h=>⟨h,rfl⟩⟩;have hm:MemOK P (upd s.st f (some (.tok e))) w g':=by
  have:=iZ (w':=w) (g':=g') (n':=0) (b':=0) (cap':=0) (o':= .tok e) hs.mem (id:=f) o hs.mem.heap rfl (λh=>absurd rfl h) (λ_ _ _=>rfl) (λ_ _=>rfl) rfl (λh=>absurd rfl h) (znr _) (λh=>absurd rfl h) hl (by simp only[ObjOK];exact⟨0,0,0,aA _ _ _, .inl rfl⟩);have A:upd (upd s.st f none) f (some (AObj.tok e))=upd s.st f (some (.tok e)):=by
   funext j
   by_cases h:j=f
   ·rw[h,aA,aA]
   ·rw[aB h,aB h,aB h]
  rwa[A]at this
 have m:=hs.step hm hl (g':=g') ⟨rfl,⟨rfl,znr _⟩,rfl,znr _,λ_ _ _=>⟨rfl,rfl,Iff.rfl⟩⟩ (λb hb=>by
  have⟨j,y,q⟩:=hb
  by_cases h:j=f
  ·rw[h]at q;simp[Go.Abs.blk,g',aA]at q
  ·rw[aB h]at y
   refine .inl ⟨j,y,?_⟩;unfold Go.Abs.blk at q⊢;rwa[show g'.io j=g.io j from aB h]at q)
 have hv:a.tmps.getD t undef= .slice none 0 0:=by
  have:=hs.env t;rw[hx]at this;simpa[EntOK,Rep]using this
 have hn:t<s.n:=by simpa[Nat.blt_eq]using hd
 have i:=m.put (d:=some t) (b:=true) (e:= .pv (.own f [])) (v:= .slice none 0 0) (λz hz=>by cases hz;exact hn) (by simp only[EntOK,Rep];exact⟨0,0,0,aA _ _ _,by simp,by simp, .inl ⟨rfl,none,rfl⟩⟩) (λ_ _ e=>by cases e);have ha:a.put (some t) (.slice none 0 0)=a:=by
  have p:t<a.tmps.size:=by rw[hs.n];exact hn
  have B:a.tmps[t]= .slice none 0 0:=by simpa[p]using hv
  simp only[Act.put];cases a with
  |mk tmps defers=>
   simp only at B p⊢
   congr 1
   grind
 rw[ha]at i;exact k f u c a w g' lam i
theorem aM{o e:AObj}(h:st id=none):StSub (upd st a (some o)) (upd (upd (upd st id (some e)) id none) a (some o)):=λj=>by
 by_cases b:j=a
 ·right;rw[b,aA,aA]
 ·rw[aB b,aB b]
  by_cases c:j=id
  ·grind
  ·right;rw[aB c,aB c]
theorem eE{o:AObj}(h:st id=none):StSub st (upd st id (some o)):=λj=>by
 by_cases a:j=id
 ·grind
 ·right;rw[aB a]
theorem gM{o:AObj}(h:upd st id (some o) a=none):st a=none:=by
 by_cases b:a=id
 ·rw[b,aA]at h;cases h
 ·rwa[aB b]at h
end
end
end
section
section
variable{P:Program}{tt:TT}
theorem ayI(hm:MemOK P st w g)(c:Array Value)(T:TypeId)(o:Obj)(ho:o= .cells c T (0,0)):
  let g':G:={g with heap:=(w.alloc o).heap,fr:=upd g.fr w.heap.size c.size}
  MemOK P st (w.alloc o) g'/\Le g g'/\Frame (λ_=>False) w g (w.alloc o) g':=by
 subst ho
 intro g'
 have⟨m1,u,m⟩:=lT hm (.cells c T (0,0))
 have i:(w.alloc (.cells c T (0,0))).heap.size=w.heap.size+1:=by show(w.heap.push _).size=_;simp
 have a:Le {g with heap:=(w.alloc (.cells c T (0,0))).heap} g':=by
  refine⟨λ_ _ h=>h,λb=>?_,λ_ _ _=>rfl,λb hb=>⟨hb,rfl⟩⟩;show g.fr b<=upd g.fr _ _ b;by_cases h:b=w.heap.size
  ·subst h
   rw[aA];cases hz:g.fr w.heap.size with
   |zero=>omega
   |succ k=>exact absurd (hm.lt w.heap.size (by omega)) (by omega)
  ·rw[aB h];exact znr _
 have j:∀id b,st id≠none->blk g id=some b->b<w.heap.size:=by
  intro id b p q;cases n:st id with
  |none=>exact absurd n p
  |some o=>
   have ho:=hm.obj id o n;have⟨x,hx,_⟩:=xF ho q;have:=bQ hx;rwa[hm.heap]at this
 refine⟨⟨rfl,λid o e=>?_,m1.inj,λb hb=>?_,m1.fmm,m1.fin⟩,u.trans a,⟨rfl,m.tape,rfl,m.size,λb hb _=>⟨(m.old b hb λh=>h).1,?_,Iff.rfl⟩⟩⟩
 ·refine ObjOK.keep a (λb hb=>⟨rfl,?_,Iff.rfl⟩) (m1.obj id o e)
  have:=j id b (by rw[e];simp) hb;exact aB (by omega)
 ·have f:upd g.fr w.heap.size c.size b≠0:=hb
  by_cases h:b=w.heap.size
  ·subst h;rw[i];omega
  ·rw[aB h]at f;have:=hm.lt b f;rw[i];omega
 ·exact aB (by omega)
def apX{α:Type}:List (List PV)->(List (List PV)->Option α)->Option α
 |[],k=>k []
 |r::rs,k=>mH r λb=>apX rs λa=>k (b::a)
theorem akX{α:Type}:∀(l:List (List PV))(k:List (List PV)->Option α),apX l k=k l
 |[],_=>rfl
 |r::rs,k=>by simp only[apX];rw[cT,akX _]
def qR(sz:Nat):Nat->List PV->List (List PV)
 |0,_=>[]
 |n+1,cs=>cs.take sz::qR sz n (cs.drop sz)
theorem xG(sz:Nat):∀(n:Nat)(cs:List PV),cs.length=n*sz->(qR sz n cs).flatten=cs/\(qR sz n cs).length=n/\∀r∈qR sz n cs,r.length=sz
 |0,cs,h=>by
  have:cs=[]:=by grind
  subst this;simp[qR]
 |n+1,cs,h=>by
  have⟨a,b,e⟩:=xG sz n (cs.drop sz) (by grind)
  refine⟨by simp only[qR,List.flatten_cons,a];simp,by simp[qR,b],λr c=>?_⟩
  simp only[qR,zmc]at c
  grind
def aIM :Nat->List PV->List PV
 |0,_=>[]
 |n+1,z=>z++aIM n z
def xX(tt:TT)(s:St)(T:TypeId)(len:Nat)(ps:List (Nat×Operand)):Option PV:=
 match tiK tt T with
 |some (.slice e)=>match aP tt e,tiZ tt e with
  |some (sz+1),some z=>bif Nat.beq z.length (sz+1)&&Nat.ble (len*(sz+1)) 16777216 then
    match oM tt (λi=>some (i*(sz+1),sz+1)) s (aIM len (z.map .val)) ps with
    |some cs=>bif Nat.beq cs.length (len*(sz+1))then apX (qR (sz+1) len cs) λrows=>match rows with|[]=>some .emp|r::rs=>some (.seq (r::rs))else none
    |none=>none
   else none
  |_,_=>none
 |_=>none
theorem ayX{T:TypeId}{len:Nat}(ps:List (Nat×Operand)):xX tt (s.sst st) T len ps=xX tt s T len ps:=by
 have b:∀a cells ps,oM _ a (s.sst st) _ ps=oM tt _ s cells _:=λ_ _ _=>abL _ _
 delta xX
 grind
theorem anI(z:List Value):∀n,aIM n (z.map PV.val)=((List.replicate n z).flatten).map PV.val
 |0=>rfl
 |n+1=>by simp[aIM,anI z n,List.replicate_succ]
theorem tK(z:List Value)(hz:z≠[]):∀n,(List.range (n*z.length)).map (λi=>z.toArray[i%z.length]!)=(List.replicate n z).flatten
 |0=>by simp
 |n+1=>by
  have hp:0<z.length:=List.length_pos_iff.2 hz
  apply List.ext_getElem?
  intro i
  rw[List.replicate_succ,List.flatten_cons]
  have c:=tK z hz n
  rcases Nat.lt_or_ge i z.length with h|h
  ·rw[List.getElem?_append_left h]
   have hi:i<(n+1)*z.length:=by rw[Nat.add_mul];omega
   simp[hi,Nat.mod_eq_of_lt h,h]
  ·rw[List.getElem?_append_right h,<-c]
   rcases Nat.lt_or_ge i ((n+1)*z.length)with a|a
   ·have b:i-z.length<n*z.length:=by rw[Nat.add_mul]at a;omega
    have h4:(i-z.length)%z.length=i%z.length:=by
     rw[<-Nat.add_mod_right (i-z.length)];congr 1;omega
    simp[a,b,h4]
   grind
theorem aEE(htt:bI P tt){T:TypeId}{len:Nat}{ps:List (Nat×Operand)}(ho:o.op= .buildSlice T len ps.toArray)(h:xX tt s T len ps=some p):OpV P o s p:=by
 intro w g ρ hm hρ;have q:∀x∈ps.map (·.2),kC g s x (ρ x):=λx hx=>hρ x (by rw[ho];simpa[Op.operands]using hx);unfold xX at h;split at h
 case h_2=>cases h
 rename_i e hk;split at h
 case h_2=>cases h
 rename_i sz z y hz;cases hb:(Nat.beq z.length (sz+1)&&Nat.ble (len*(sz+1)) 16777216)with
 |false=>rw[hb]at h;simp at h
 |true=>
  rw[hb]at h;simp only[zqt]at h;rw[zba]at hb;have k:=Nat.eq_of_beq_eq_true hb.1;have Q:=Nat.le_of_ble_eq_true hb.2;split at h
  case h_2=>cases h
  rename_i cs D;cases c:Nat.beq cs.length (len*(sz+1))with
  |false=>rw[c]at h;simp at h
  |true=>
   rw[c]at h;have c:=Nat.eq_of_beq_eq_true c;simp only[zqt,akX]at h;have hu:=cD (aR htt hk).1;have⟨C,H,A⟩:=nH htt hz;have B:z≠[]:=by intro h0;rw[h0]at k;simp at k
   have U:C.cells.size=sz+1:=by rw[<-k,<-A];simp
   let a:Array Value:=(Array.range (len*(sz+1))).map (C.cells[· %C.cells.size]!)
   have m:a.toList=(List.replicate len z).flatten:=by
    rw[<-tK z B len,k];have I:C.cells=z.toArray:=by apply Array.toList_inj.1;simp[A]
    simp only[a,I];simp[k]
   have⟨n,J,L⟩:=zO (place':=λi=>some (i*(sz+1),sz+1)) (λi x hx=>hx) (ρ:=ρ) ps _ cs a D (by rw[m,anI];exact RepL.vals _) q;have S:n.size=len*(sz+1):=by rw[<-c,<-L.length];simp
   have⟨c1,c2,O⟩:=xG (sz+1) len cs c;have u:(execOp ρ o).run P w= .ok (.value (.slice (some ⟨w.heap.size,0,none⟩) len len)) (w.alloc (.cells n e (0,0))):=by
    by_cases hl:len*(sz+1)=0
    ·have F:len=0:=by rcases Nat.mul_eq_zero.1 hl with h|h<;>omega
     subst F;have f:Instr.fill (λi=>some (i*(sz+1),sz+1)) a (ps.map λx=>(x.fst,ρ x.snd))=some n:=J;have N:Array.range 0=(#[]:Array Nat):=rfl;simp only[a,Nat.zero_mul,N,List.map_toArray,List.map_nil]at f;simp only[execOp,ho,Instr.buildSlice,Sem.run_bind,run_underlying hu,Result.andThen_ok,aZ (aQ htt y).1,Sem.run_pure];simp[N,f,newRow,newObj]
     try rfl
    ·have E:¬(len*(sz+1)>2^24):=by omega
     have f:Instr.fill (λi=>some (i*(sz+1),sz+1)) a (ps.map λx=>(x.fst,ρ x.snd))=some n:=J;simp only[execOp,ho,Instr.buildSlice,Sem.run_bind,run_underlying hu,Result.andThen_ok,aZ (aQ htt y).1,Sem.run_pure,zn E,zn hl,cI H];simp only[a]at f;simp[f,newRow,newObj]
     try rfl
   rw[u];have⟨m1,M,V⟩:=ayI hm n e _ rfl;have key:∀{g:G},Rep g (.seq (qR (sz+1) len cs)) (.slice (some ⟨w.heap.size,0,none⟩) len len)->Rep g p (.slice (some ⟨w.heap.size,0,none⟩) len len):=fun{g} hr=>by
    split at h
    ·rename_i e
     injection h with h;subst h
     have:len=0:=by rw[<-c2,e];rfl
     subst this;simp only[Rep];exact⟨_,rfl⟩
    ·rename_i e;injection h with h;subst h;rw[<-e];exact hr
   refine⟨_,key ?_,m1,M,V.mono λb h=>h.elim⟩;simp only[Rep];refine⟨some ⟨w.heap.size,0,none⟩,len,by rw[c2],by omega,?_, .inr ⟨w.heap.size,0,sz+1,rfl,?_⟩⟩
   ·rw[c2]
    have:len*1<=len*(sz+1):=Nat.mul_le_mul_left _ (by omega);omega
   ·refine RepR.mk O (by rw[c1];exact RepL.mono M _ _ L) λj v hj=>?_
    have R:j<n.size:=by
     have:=(zge.1 hj).1;simpa using this
    refine⟨?_,by show 0+j<upd g.fr _ _ _;rw[aA];omega⟩;show bB (w.heap.push (.cells n e (0,0))) w.heap.size (0+j)=some v;simp only[bB,Array.getElem?_push_size,Nat.zero_add]
    simpa using hj
section
variable{l:List Oper}{d:Md}{r:List Oper}{s:St}{K:St->Prop}{t:Nat}{op:Op}{ty:TypeId}{pos:String}{after:Array Edge}{gd:Option (Nat×Bool)}
theorem aGQ(htt:bI P tt){T:TypeId}{len:Nat}{ps:Array (Nat×Operand)}{w:Bool}(hw:bG l ⟨some t, .buildSlice T len ps,ty,pos,after,gd⟩ s=some w)(h:xX tt s T len ps.toList=some p)(hf:lC s w (opl (.buildSlice T len ps)))(hd:Nat.blt t s.n=true)(ht:cX d l r=true)(k:Ev P l d r (s.put (some t) w (.pv p)) K):Ev P l d (⟨some t, .buildSlice T len ps,ty,pos,after,gd⟩::r) s K:=
 dC hw (λ_ _=>aEE htt rfl ((ayX _).trans h)) (λz hz=>aO (λ_ _ _ e=>by grind) hz) hf hd ht k
theorem aM5(htt:bI P tt){T:TypeId}{x:Nat}{w wx:Bool}{u off n e:Nat}{c:IntKind}(j:Nat)(hw:bG l ⟨some t, .indexAddr T (.tmp x) y,ty,pos,after,gd⟩ s=some w)(hx:s.env x=(wx, .adr u off))(hy:opd s y=some (.val (.int c i)))(hk:tiK tt T=some (.arr n e))(hs:aP tt e=some sz)(hf:w=true->wx=true)(a:w=true->kE s y=true)(hd:Nat.blt t s.n=true)(hj:w=true->i=(j:Int))(b:w=true->j<n)(ht:cX d l r=true)(k:Ev P l d r (s.put (some t) w (.adr u (off+j*sz))) K):Ev P l d (⟨some t, .indexAddr T (.tmp x) y,ty,pos,after,gd⟩::r) s K:=
 fQ (.adrI w _ u _ T x y _ i n e _ j hw hd rfl hx hy (λh=>⟨hf h,gB.2 (a h)⟩) (jN (aR htt hk).1) (aQ htt hs).1 λh=>⟨hj h,b h⟩) ht k
end
end
end
section
section
variable{P:Program}{tt:TT}
def zF :Value->Value->Option Bool
 | .int k a, .int k' b=>bif rY k k' then some (decide (a=b))else none
 | .string a, .string b=>some (decide (a=b))
 | .bool a, .bool b=>some (a==b)
 |_,_=>none
def zS :TK->Value->Bool
 | .int _, .int _ _=>true
 | .str, .string _=>true
 | .bool, .bool _=>true
 |_,_=>false
def anM(k:Value):List (Value×PV)->Option (Option PV)
 |[]=>some none
 |e::es=>match zF k e.1 with
  |some true=>some (some e.2)
  |some false=>anM k es
  |none=>none
theorem kY{e:TypeDesc}{P:Program}(hu:P.underlying t=some e){k:TK}(hk:jT P t=k){a b:Value}(hc:zS k a=true)(h:zF a b=some r):Instr.sameNow e a b=some r:=by
 unfold zS at hc;split at hc
 ·rename_i g k2 n
  have:=sX hk;rw[hu]at this;injection this with this;subst this
  cases b<;>simp only[zF]at h<;>try(cases h;done)
  rename_i f m;cases c:rY k2 f with
  |false=>rw[c]at h;simp at h
  |true=>
   rw[c]at h;simp only[zqt]at h;have:=jR c;subst this;simp only[Instr.sameNow,if_true];rw[<-h]
   congr 1
 ·rename_i s
  have:=pA hk;rw[hu]at this;injection this with this;subst this
  cases b<;>simp only[zF]at h<;>try(cases h;done)
  rename_i s2;simp only[Instr.sameNow];rw[<-h]
  congr 1
  by_cases c:s=s2
  ·rw[zdt c];exact(MapKept.bytes_beq s s2).2 c
  ·rw[zdj c]
   cases hb:(s==s2)with
   |false=>rfl
   |true=>exact absurd ((MapKept.bytes_beq s s2).1 hb) c
 ·rename_i s
  have:e= .bool:=by
   unfold jT at hk;rw[hu]at hk;split at hk<;>simp_all
  subst this;cases b<;>simp only[zF]at h<;>try(cases h;done)
  simp only[Instr.sameNow];rw[<-h]
 ·cases hc
theorem afF{a:TypeDesc}{t:TypeId}(hu:P.underlying t=some a){k:TK}(hk:jT P t=k){g:G}{key:Value}(hc:zS k key=true):∀{es:List (Value×PV)}{ms:List MapEntry}{r:Option PV}(i:Nat),anM key es=some r->RepE g es ms->
  match r with
  |none=>Instr.findNow a key ms i=some none
  |some p=>∃j v,Instr.findNow a key ms i=some (some (i+j,v))/\Rep g p v/\(∃e,ms[j]?=some e/\e.val=v)
 |[],ms,r,i,h,hr=>by
  injection h with h;subst h
  simp only[RepE]at hr
  subst hr
  rfl
 |e::es,ms,r,i,h,hr=>by
  simp only[RepE]at hr
  obtain⟨m,u,rfl,b,f,n⟩:=hr
  simp only[anM]at h
  split at h
  ·rename_i hs
   injection h with h;subst h
   rw[<-b]at hs;refine⟨0,m.val,by simp[Instr.findNow,kY hu hk hc hs],f,m,by simp,rfl⟩
  ·rename_i hs
   rw[<-b]at hs;have:=afF hu hk hc (i+1) h n;cases r with
   |none=>simp only[Instr.findNow,kY hu hk hc hs];exact this
   |some p=>
    have⟨j,v,k1,k2,c,o,q⟩:=this;refine⟨j+1,v,?_,k2,c,by simpa using o,q⟩;simp only[Instr.findNow,kY hu hk hc hs,k1]
    congr 3
    omega
  ·cases h
theorem akV{k:TK}(hk:jT P t=k)(hc:zS k key=true)(hu:(P.underlying t).isSome=true)(b:Bool)(w:World)(n:Nat):(Instr.checkKey b (n+1) t key).run P w= .ok () w:=by
 cases a:P.underlying t with
 |none=>grind
 |some kd=>
  unfold zS at hc;split at hc
  ·have:=sX hk
   simp[Instr.checkKey,run_underlying this]
  ·have:=pA hk
   simp[Instr.checkKey,run_underlying this]
  ·have:kd= .bool:=by
    unfold jT at hk;grind
   subst this;simp[Instr.checkKey,run_underlying a]
  ·cases hc
theorem jC{k:TK}(hk:jT P t=k)(hc:zS k key=true)(hu:(P.underlying t).isSome=true)(b:Bool)(w:World):(Instr.checkKey b 10000 t key).run P w= .ok () w:=
 akV hk hc hu b w _
def jI(tt:TT)(T:TypeId)(es:List (Value×PV))(key:Value)(ok:Bool):Option PV:=
 match tiK tt T with
 |some (.map kt e)=>match tiK tt kt,pzv tt e,anM key es with
  |some k,some z,some r=>bif zS k key then(match r with
    |some p=>some (bif ok then .tup [p, .val (.bool true)]else p)
    |none=>some (bif ok then .tup [z, .val (.bool false)]else z))else none
  |_,_,_=>none
 |_=>none
theorem aAW(htt:bI P tt){T:TypeId}{es:List (Value×PV)}(h:jI tt T es key ok=some p){a:Array MapEntry}(F:RepE g es a.toList){x:Value}(hx:(x= .map none/\a= #[])\/∃b c,x= .map (some b)/\w.heap[b]?=some (.map a c)):∃v,(Instr.lookup T x key ok).run P w= .ok v w/\Rep g p v:=by
  unfold jI at h
  split at h
  case h_2=>cases h
  rename_i kt e hT
  split at h
  case h_2=>cases h
  rename_i k z r A hz B
  cases hc:zS k key with
  |false=>rw[hc]at h;simp at h
  |true=>
    rw[hc]at h;simp only[zqt]at h;have hu:=xJ (aR htt hT).1;have⟨m,f⟩:=aR htt A;have⟨u,z1,z2⟩:=aAM htt hz;cases n:P.underlying kt with
    |none=>rw[n]at f;cases f
    |some kd=>
      have hf:=afF n m hc 0 B F;have i:∀(fr:Option (Nat×Value)),Instr.findNow kd key a.toList 0=some fr->(Instr.lookup T x key ok).run P w=
          ((match fr with
            |some (_,v)=>pure (v,true)
            |none=>do pure (<-zeroValue e,false):Sem (Value×Bool))>>=λ(C:Value×Bool)=>pure (if ok then .tuple #[C.1, .bool C.2]else C.1):Sem Value).run P w:=by
        intro fr y
        have o:=MapKept.run_findKey (w:=w) n y
        rcases hx with⟨rfl,rfl⟩|⟨b,c,rfl,hb⟩
        · simp only[Instr.lookup,Sem.run_bind,run_underlying hu,Result.andThen_ok,Sem.run_pure,jC m hc f,o]
          cases fr<;>simp[Sem.run_bind,cI z1]
        · simp only[Instr.lookup,Sem.run_bind,run_underlying hu,Result.andThen_ok,Sem.run_pure,MapKept.run_getObj_map hb,jC m hc f,o]
          cases fr<;>simp[Sem.run_bind,cI z1]
      cases r with
      |some q=>
        have⟨j,v,E,D,_⟩:=hf;refine⟨if ok then .tuple #[v, .bool true]else v,?_,?_⟩
        · rw[i _ E];simp
        · simp only at h
          injection h with h;subst h
          cases ok with
          |true=>simp only[zqt,if_true,Rep];exact⟨[v, .bool true],rfl,by simp only[RepL];exact⟨v,_,rfl,D,_,_,rfl,by simp[Rep],rfl⟩⟩
          |false=>simpa using D
      |none=>
        refine⟨if ok then .tuple #[u, .bool false]else u,?_,?_⟩
        · rw[i _ hf];simp[cI z1]
        · simp only at h
          injection h with h;subst h
          cases ok with
          |true=>simp only[zqt,if_true,Rep];exact⟨[u, .bool false],rfl,by simp only[RepL];exact⟨u,_,rfl,z2 g,_,_,rfl,by simp[Rep],rfl⟩⟩
          |false=>simpa using z2 g
def aBz :PV->Option (List (Value×PV))
 | .fmap es=>some es
 | .val (.map none)=>some []
 |_=>none
theorem ayS(htt:bI P tt){T:TypeId}{es:List (Value×PV)}(ho:o.op= .lookup T x y ok)(hx:opd s x=some q)(hq:aBz q=some es)(hy:opd s y=some (.val key))(h:jI tt T es key ok=some p):OpV P o s p:=by
 refine aN λw g ρ hm hρ=>?_;have f:=hρ x (by rw[ho];simp[Op.operands]) _ hx;have m:=aL (hρ y (by rw[ho];simp[Op.operands]) _ hy);have e:∃a,RepE g es a.toList/\((ρ x= .map none/\a= #[])\/∃b c,ρ x= .map (some b)/\w.heap[b]?=some (.map a c)):=by
  unfold aBz at hq;split at hq
  ·injection hq with hq;subst hq
   have⟨b,a,c,i,z,j,k⟩:=f;exact⟨a,k, .inr ⟨b,c,i,by rw[<-hm.heap];exact j⟩⟩
  ·injection hq with hq;subst hq
   have:=aL f;exact⟨#[],rfl, .inl ⟨this,rfl⟩⟩
  ·cases hq
 have⟨a,k1,k2⟩:=e;have⟨v,n,u⟩:=aAW htt h k1 k2;refine⟨v,?_,u⟩;simp only[execOp,ho,m,Sem.run_bind,n,Result.andThen_ok,Sem.run_pure]
section
variable{l:List Oper}{d:Md}{r:List Oper}{s:St}{K:St->Prop}{t:Nat}{op:Op}{ty:TypeId}{pos:String}{after:Array Edge}{gd:Option (Nat×Bool)}
theorem aDR(htt:bI P tt){T:TypeId}{w:Bool}{es:List (Value×PV)}(hw:bG l ⟨some t, .lookup T x y ok,ty,pos,after,gd⟩ s=some w)(hx:opd s x=some q)(hq:aBz q=some es)(hy:opd s y=some (.val key))(hf:lC s w (opl (.lookup T x y ok)))(hd:Nat.blt t s.n=true)(h:jI tt T es key ok=some p)(ht:cX d l r=true)(k:Ev P l d r (s.put (some t) w (.pv p)) K):Ev P l d (⟨some t, .lookup T x y ok,ty,pos,after,gd⟩::r) s K:=
 dC hw (λ_ _=>ayS htt rfl hx hq hy h) (λz hz=>aO (λ_ _ _ e=>by grind) hz) hf hd ht k
end
end
end
section
section
variable{P:Program}{tt:TT}
theorem aFq(hm:MemOK P st w g){b:Nat}(e:st j≠none)(c:Go.Abs.blk g j=some b):b<w.heap.size:=by
 cases h:st j with
 |none=>grind
 |some o=>
  have a:=hm.obj j o h;have:∃x,g.heap[b]?=some x:=by have⟨x,hx,_⟩:=xF a c;grind
  have⟨x,hx⟩:=this;have:=bQ hx;rwa[hm.heap]at this
theorem iU(hm:MemOK P st w g){b:Nat}{x y:Obj}(c:st id≠none)(hb:Go.Abs.blk g id=some b)(hx:w.heap[b]?=some x)(hw:w'={w with heap:=w.heap.setIfInBounds b y})(k:∀i,i<g.fr b->bB w'.heap b i=bB w.heap b i)(q:¬g.fm b)(ho:Le g {g with heap:=w'.heap}->ObjOK P {g with heap:=w'.heap} id o'):
  MemOK P (upd st id (some o')) w' {g with heap:=w'.heap}/\Le g {g with heap:=w'.heap}/\Frame (Blocks st g) w g w' {g with heap:=w'.heap}/\(∀b',Blocks (upd st id (some o')) {g with heap:=w'.heap} b'->Blocks st g b'\/w.heap.size<=b'):=by
 have F:=bQ hx
 have f:∀b',b'≠b->w'.heap[b']?=w.heap[b']?:=λb' h=>by
  rw[hw];simp only;rw[Array.getElem?_setIfInBounds];simp[Ne.symm h]
 have m:Le g {g with heap:=w'.heap}:=by
  refine⟨λ_ _ h=>h,λ_=>znr _,λb' i hi=>?_,λb' a=>⟨a,?_⟩⟩
  ·show bB w'.heap b' i=bB g.heap b' i
   rw[hm.heap];by_cases h:b'=b
   ·subst h;exact k i hi
   ·simp only[bB,f b' h]
  ·show w'.heap[b']?=g.heap[b']?
   rw[hm.heap];exact f b' λh=>q (h▸a)
 have n:w'.heap.size=w.heap.size:=by rw[hw];simp
 refine⟨⟨rfl,λj o e=>?_,λj j' b' e z D E=>?_,λb' h=>by rw[n];exact hm.lt b' h,λb' h=>?_,hm.fin⟩,m,⟨by rw[hw],by rw[hw];exact⟨rfl,znr _⟩,by rw[hw],by rw[n];exact znr _,λb' a hn=>?_⟩,λb' ⟨j,H,I⟩=> .inl ?_⟩
 ·by_cases h:j=id
  ·subst h;rw[aA]at e;injection e with e;subst e;exact ho m
  ·rw[aB h]at e
   refine(hm.obj j o e).keep m λb' a=>⟨?_,rfl,Iff.rfl⟩;show w'.heap[b']?=g.heap[b']?;rw[hm.heap];refine f b' λC=>h ?_;rw[C]at a;exact hm.inj j id b (by rw[e];simp) c a hb
 ·have A:st j≠none:=by
   by_cases h:j=id
   ·rw[h];exact c
   ·rwa[aB h]at e
  have B:st j'≠none:=by
   by_cases h:j'=id
   ·rw[h];exact c
   ·rwa[aB h]at z
  exact hm.inj j j' b' A B D E
 ·have⟨u,p,e,v⟩:=hm.fmm b' h
  grind
 ·refine⟨f b' λh=>hn ⟨id,c,by rw[h];exact hb⟩,rfl,Iff.rfl⟩
 ·refine⟨j,?_,I⟩
  by_cases h:j=id
  ·rw[h];exact c
  ·rwa[aB h]at H
def aDX(k:Value)(p:PV):List (Value×PV)->Option (List (Value×PV))
 |[]=>some [(k,p)]
 |e::es=>match zF k e.1 with
  |some true=>some ((k,p)::es)
  |some false=>match aDX k p es with
   |some es'=>some (e::es')
   |none=>none
  |none=>none
theorem aFw{a b:Value}(h:zF a b=some true):a=b:=by
 cases a<;>cases b<;>simp only[zF]at h<;>first|cases h;done|skip
 ·grind
 ·rename_i k n k' n'
  cases c:rY k k' with
  |false=>grind
  |true=>rw[c]at h;simp at h;rw[jR c,h]
 grind
theorem aGE{c:TypeDesc}{t:TypeId}(hu:P.underlying t=some c){k:TK}(hk:jT P t=k){g:G}{key v:Value}{p:PV}(hv:Rep g p v)(hc:zS k key=true):∀{es es':List (Value×PV)}{ms:List MapEntry}(i clock:Nat),aDX key p es=some es'->RepE g es ms->
  (Instr.findNow c key ms i=some none/\RepE g es' (ms++[{key:=key,val:=v,born:=clock}]))\/
  ∃j e,Instr.findNow c key ms i=some (some (i+j,e.val))/\ms[j]?=some e/\e.key=key/\RepE g es' (ms.set j {e with key:=key,val:=v})
 |[],es',ms,i,clock,h,hr=>by
  simp only[aDX]at h
  injection h with h;subst h
  simp only[RepE]at hr
  subst hr
  exact .inl ⟨rfl,by simp only[List.nil_append,RepE];exact⟨_,_,rfl,rfl,hv,rfl⟩⟩
 |e::es,es',ms,i,clock,h,hr=>by
  simp only[RepE]at hr
  obtain⟨m,x,rfl,a,f,n⟩:=hr
  simp only[aDX]at h
  split at h
  ·rename_i hs
   injection h with h;subst h
   have b:=hs;rw[<-a]at hs;exact .inr ⟨0,m,by simp[Instr.findNow,kY hu hk hc hs],by simp,by rw[a];exact(aFw b).symm,by simp only[List.set_cons_zero,RepE];exact⟨_,_,rfl,rfl,hv,n⟩⟩
  ·rename_i hs
   rw[<-a]at hs;split at h
   ·rename_i q h4
    injection h with h;subst h
    rcases aGE hu hk hv hc (i+1) clock h4 n with⟨k1,k2⟩|⟨j,o,k1,k2,u,w⟩
    ·refine .inl ⟨by simp only[Instr.findNow,kY hu hk hc hs];exact k1,?_⟩
     simp only[List.cons_append,RepE];exact⟨m,_,rfl,a,f,k2⟩
    ·refine .inr ⟨j+1,o,?_,by simpa using k2,u,?_⟩
     ·simp only[Instr.findNow,kY hu hk hc hs,k1]
      congr 3;omega
     ·simp only[List.set_cons_succ,RepE]
      exact⟨m,_,rfl,a,f,w⟩
   ·cases h
  ·cases h
theorem aHj{a:TypeDesc}(hu:P.underlying t=some a){k:TK}(hk:jT P t=k)(hc:zS k key=true)(hi:∀b n,key= .int b n->k= .int b):MapKept.IsKey a key:=by
 unfold zS at hc;split at hc
 ·have:=sX hk
  rw[hu]at this;injection this with this;subst this
  have:=hi _ _ rfl;injection this with this
  simp[MapKept.IsKey,this]
 ·have:=pA hk
  rw[hu]at this;injection this with this;subst this
  trivial
 ·have:a= .bool:=by
   unfold jT at hk;grind
  subst this;trivial
 ·cases hc
def aCk :TK->Value->Bool
 | .int k, .int k' _=>rY k k'
 |k,v=>zS k v
theorem aHZ{k:TK}(h:aCk k v=true):zS k v=true/\∀a n,v= .int a n->k= .int a:=by
 unfold aCk at h;split at h
 ·exact⟨rfl,λa n e=>by cases e;rw[jR h]⟩
 ·refine⟨h,λa n e=>?_⟩
  unfold zS at h
  grind
theorem Stamps.push{b:List MapEntry}(h:Stamps b a)(k v:Value):Stamps (b++[{key:=k,val:=v,born:=a}]) (a+1):=by
 refine⟨by rw[zla,h.1];rfl,λi e c=>?_⟩;rcases Nat.lt_or_ge i _ with hi|hi
 ·rw[List.getElem?_append_left hi]at c;exact h.2 i e c
 ·rw[List.getElem?_append_right hi]at c
  cases hj:i-b.length with
  |zero=>rw[hj]at c;simp at c;rw[<-c];simp;rw[h.1];omega
  |succ n=>grind
theorem Stamps.set{b:List MapEntry}{e:MapEntry}(h:Stamps b a)(hj:b[j]?=some e)(k v:Value):Stamps (b.set j {e with key:=k,val:=v}) a:=by
 refine⟨by rw[List.length_set];exact h.1,λi x hx=>?_⟩;rw[List.getElem?_set]at hx;split at hx
 ·rename_i hi;subst hi
  split at hx
  ·injection hx with hx;rw[<-hx];exact h.2 _ e hj
  ·cases hx
 ·exact h.2 i x hx
theorem dK{es:Array MapEntry}{e:MapEntry}(h:es.toList[j]?=some e)(f:MapEntry->MapEntry):(es.modify j f).toList=es.toList.set j (f e):=by
 apply List.ext_getElem?
 grind
theorem aA6(htt:bI P tt)(hm:MemOK P st w g){es:List (Value×PV)}(B:st id=some (.map es)){T kt:TypeId}{k:TK}(hT:tiK tt T=some (.map kt e))(F:tiK tt kt=some k){x:Value}(hx:Rep g (.mref id) x)(hv:Rep g p v)(hk:aCk k key=true)(A:aDX key p es=some es'):
  ∃w' g',(Instr.mapUpdate T x key v).run P w= .ok () w'/\MemOK P (upd st id (some (.map es'))) w' g'/\Le g g'/\Frame (Blocks st g) w g w' g'/\(∀b',Blocks (upd st id (some (.map es'))) g' b'->Blocks st g b'\/w.heap.size<=b'):=by
 have⟨q,E⟩:=aHZ hk
 have hu:=xJ (aR htt hT).1
 have⟨f,h⟩:=aR htt F
 have z:=hm.obj id _ B
 simp only[ObjOK]at z
 have⟨b,n,cap,c,a,C,I,L,h4,h5,J⟩:=z
 simp only[Rep]at hx
 obtain⟨b',n',cap',m,rfl⟩:=hx
 rw[C]at m;injection m with m;injection m with m h1'';subst m
 have y:Go.Abs.blk g id=some b:=by simp[Go.Abs.blk,C,I]
 have hb:w.heap[b]?=some (.map c a):=by rw[<-hm.heap];exact L
 cases o:P.underlying kt with
 |none=>rw[o]at h;cases h
 |some kd=>
  have D:=aHj o f q E;have fin:∀ents' clock',RepE g es' ents'.toList->Stamps ents'.toList clock'->let w':World:={w with heap:=w.heap.setIfInBounds b (.map ents' clock')}
    MemOK P (upd st id (some (.map es'))) w' {g with heap:=w'.heap}/\Le g {g with heap:=w'.heap}/\Frame (Blocks st g) w g w' {g with heap:=w'.heap}/\(∀b',Blocks (upd st id (some (.map es'))) {g with heap:=w'.heap} b'->Blocks st g b'\/w.heap.size<=b'):=by
   intro ents' clock' M hs w'
   have u:w'.heap[b]?=some (.map ents' clock'):=(MapKept.heap_set hb).1
   refine iU hm (by rw[B];simp) y hb rfl (λi hi=>?_) h5 λH=>?_
   ·show bB w'.heap b i=_
    simp only[bB,u,hb]
   ·simp only[ObjOK]
    exact⟨b,n,cap,ents',clock',C,I,u,RepE.mono H _ _ M,h5,hs⟩
  rcases aGE o f hv q 0 a A h4 with⟨k1,k2⟩|⟨j,e0,k1,k2,N,O⟩
  ·refine⟨_,_,?_,fin (c.push {key,val:=v,born:=a}) (a+1) (by simpa using k2) (by simpa using J.push key v)⟩
   simp[Instr.mapUpdate,run_underlying hu,MapKept.run_getObj_map hb,jC f q h,MapKept.run_findKey o k1,MapKept.run_setObj_map _ hb]
  ·have hj:c[j]?=some e0:=by simpa using k2
   refine⟨_,_,?_,fin (c.modify j λe=>{e with key:=key,val:=v}) a (by rw[dK k2];exact O) (by rw[dK k2];exact J.set k2 key v)⟩;simp[Instr.mapUpdate,run_underlying hu,MapKept.run_getObj_map hb,jC f q h,MapKept.run_findKey o k1,hj,N,MapKept.run_keyThatStays D,MapKept.run_setObj_map _ hb]
theorem aKv(hm:MemOK P st w g):∃id g',g.io id=none/\st id=none/\Rep g' (.mref id) (.map (some w.heap.size))/\MemOK P (upd st id (some (.map []))) (w.alloc (.map #[] 0)) g'/\Le g g'/\Frame (Blocks st g) w g (w.alloc (.map #[] 0)) g'/\
  ∀b',Blocks (upd st id (some (.map []))) g' b'->Blocks st g b'\/w.heap.size<=b':=by
 have⟨id,m,u⟩:=lM hm
 have⟨m1,o,c⟩:=lT hm (.map #[] 0)
 let g':G:={g with heap:=(w.alloc (.map #[] 0)).heap,io:=upd g.io id (some (w.heap.size,0,1))}
 have i:Le g g':=⟨pG m,o.fr,o.cell,o.fm⟩
 have k:(w.alloc (.map #[] 0)).heap[w.heap.size]?=some (.map #[] 0):=by show(w.heap.push _)[_]?=_;simp
 have f:¬g.fm w.heap.size:=λh=>by
  have⟨v,cl,e,_⟩:=hm.fmm _ h
  have:=bQ e;omega
 have a:=iZ (g':=g') (id:=id) (b':=w.heap.size) (n':=0) (cap':=1) (o':= .map []) hm m rfl rfl (λ_=> .inr rfl) (λb hb _=>(c.old b hb λh=>h).1) (λ_ _=>rfl) rfl (λ_=>f) c.size (λ_=>bQ k) i
  (by simp only[ObjOK];exact⟨w.heap.size,0,1, #[],0,aA _ _ _,by omega,k,by simp[RepE],f,⟨by simp,by simp⟩⟩)
 have q:upd (upd st id none) id (some (AObj.map []))=upd st id (some (.map [])):=by
  funext j
  by_cases h:j=id
  ·rw[h,aA,aA]
  ·rw[aB h,aB h,aB h]
 rw[q]at a
 refine⟨id,g',m,u,by simp only[Rep];exact⟨w.heap.size,0,1,aA _ _ _,rfl⟩,a,i,⟨c.os,c.tape,c.output,c.size,λb hb hn=>⟨(c.old b hb λh=>h).1,rfl,Iff.rfl⟩⟩,λb' ⟨j,p,n⟩=>?_⟩
 by_cases h:j=id
 ·subst h
  right;simp[Go.Abs.blk,g',aA]at n;omega
 ·rw[aB h]at p
  refine .inl ⟨j,p,?_⟩;unfold Go.Abs.blk at n⊢;rwa[show g'.io j=g.io j from aB h]at n
section
variable{l:List Oper}{r:List Oper}{s:St}{K:St->Prop}{t:Nat}{dst:Option Nat}{op:Op}{ty:TypeId}{pos:String}{after:Array Edge}{gd:Option (Nat×Bool)}
theorem rQ{T:TypeId}(hd:Nat.blt t s.n=true)(k:∀id,s.st id=none->Ev P l .seq r ((s.sst (upd s.st id (some (.map [])))).pv t (.mref id)) K):Ev P l .seq (⟨some t, .makeMap T none,ty,pos,after,none⟩::r) s K:=by
 refine aHw rfl λc a w g lam hs=>?_;have⟨id,g',j,b,f,h,i,h4,h5⟩:=aKv hs.mem;exact⟨_,g',lam,k _ b,(hs.step h i h4 h5).put (d:=some t) (λz hz=>by cases hz;simpa[St.sst]using hd) f λ_ _ e=>by grind⟩
theorem vC(htt:bI P tt){T kt:TypeId}{k:TK}{es:List (Value×PV)}(j:op= .insert T m y z\/op= .mapUpdate T m y z)(hm:opd s m=some (.mref id))(hy:opd s y=some (.val key))(hz:opd s z=some p)(hT:tiK tt T=some (.map kt e))(i:tiK tt kt=some k)(hk:aCk k key=true)(hf:bS s [m,y,z]=true)(n:s.st id=some (.map es))(f:aDX key p es=some es')(x:Ev P l .seq r (s.sst (upd s.st id (some (.map es')))) K):Ev P l .seq (⟨none,op,ty,pos,after,none⟩::r) s K:=by
 refine aHw rfl λc a w g lam hs=>?_
 have b:=kZ hf
 have A:=nN hs (b m (by simp)) _ hm
 have o:=aL (nN hs (b y (by simp)) _ hy)
 have B:=nN hs (b z (by simp)) _ hz
 have⟨w',g',q,u,v,h4,h5⟩:=aA6 htt hs.mem n hT i A B hk f
 have h:(execOp a.eval (⟨none,op,ty,pos,after,none⟩)).run P w= .ok .skip w':=by
  rcases j with rfl|rfl<;>simp only[execOp,o,Sem.run_bind,q,Result.andThen_ok,Sem.run_pure]
 rw[h]
 exact⟨_,g',lam,x,hs.step u v h4 h5⟩
end
def St.frozen(s:St)(u:Nat)(cs:List PV):St:={s with env:=upd s.env u (true, .pv (.rp cs)),L:=upd s.L u none}
theorem SI.freeze{c:Ctx}{a:Act}{lam:Nat->Nat}(hs:SI P c s a w g lam)(u:Nat){T:TypeId}(hx:s.env u=(true, .adr u 0))(hL:s.L u=some (T,cs)):∃g',SI P c (s.frozen u cs) a w g' lam:=by
 have⟨vs,B,I,J,h4,h5⟩:=hs.box u T cs hL;have z:lam u<w.heap.size:=by have:=bQ B;rwa[hs.mem.heap]at this
 let g':G:={g with fr:=upd g.fr (lam u) vs.size}
 have i:Le g g':=by
  refine⟨λ_ _ h=>h,λb=>?_,λ_ _ _=>rfl,λb hb=>⟨hb,rfl⟩⟩;show g.fr b<=upd g.fr _ _ b;by_cases h:b=lam u
  ·rw[h,J];exact Nat.zero_le _
  ·rw[aB h];exact znr _
 have k:∀b,b≠lam u->g'.fr b=g.fr b:=λb h=>aB h;have hm:MemOK P s.st w g':=by
  refine⟨hs.mem.heap,λid o e=>(hs.mem.obj id o e).keep i λb hb=>⟨rfl,k b λh=>h5 ⟨id,by rw[e];simp,h▸hb⟩,Iff.rfl⟩,hs.mem.inj,λb hb=>?_,hs.mem.fmm,hs.mem.fin⟩;by_cases h:b=lam u
  ·rw[h];exact z
  ·rw[k b h]at hb;exact hs.mem.lt b hb
 have A:Rep g' (.rp cs) (.pointer (some ⟨lam u,0,none⟩)):=by
  simp only[Rep];refine⟨lam u,0,rfl,?_⟩;have key:∀{cs:List PV}{o:Nat}{q:List Value},RepL g' cs q->(∀j v,q[j]?=some v->bB g'.heap (lam u) (o+j)=some v/\o+j<g'.fr (lam u))->RepA g' (lam u) o cs:=by
   intro cs
   induction cs with
   |nil=>intro o q _ _;simp[RepA]
   |cons c cs ih=>
    intro o q hh p;simp only[RepL]at hh;obtain⟨v,R,rfl,C,D⟩:=hh;simp only[RepA];refine⟨⟨v,by simpa using(p 0 v (by simp)).1,by simpa using(p 0 v (by simp)).2,C⟩,ih D λj x hj=>?_⟩;have:=p (j+1) x (by simpa using hj);rwa[show o+(j+1)=o+1+j from by omega]at this
  refine key (RepL.mono i _ _ I) λj v hj=>?_;have M:j<vs.size:=by have:=(zge.1 hj).1;simpa using this
  refine⟨?_,by show 0+j<upd g.fr _ _ _;rw[aA];omega⟩;show bB g.heap (lam u) (0+j)=some v;simp only[bB,B,Nat.zero_add]
  simpa using hj
 refine⟨g',hm,hs.le.trans i,?_,hs.blk,λt=>?_,λt U ds e=>?_,λt y e f=>?_,λt b v off e=>?_,λt e=>?_,hs.defers,hs.n,hs.top⟩
 ·refine⟨hs.frame.os,hs.frame.tape,hs.frame.output,hs.frame.size,λb hb hn=>?_⟩
  have⟨E,F,H⟩:=hs.frame.old b hb hn;exact⟨E,(k b (by omega)).trans F,H⟩
 ·show EntOK g' lam (upd s.env u _ t) _
  by_cases h:t=u
  ·subst h
   rw[aA];have:=hs.env t;rw[hx]at this;simp only[EntOK]at this⊢;rw[this];exact A
  ·rw[aB h];exact(hs.env t).mono i
 ·have f:upd s.L u none t=some (U,ds):=e
  by_cases h:t=u
  ·rw[h,aA]at f;cases f
  ·rw[aB h]at f
   have⟨q,k1,k2,N,O,Q⟩:=hs.box t U ds f;refine⟨q,k1,RepL.mono i _ _ k2,?_,O,Q⟩;rw[k]
   ·exact N
   ·intro hh
    exact h (hs.inj t u (by rw[f];simp) (by rw[hL];simp) hh)
 ·have k1:s.L t≠none:=λh=>e (by show upd s.L u none t=none;by_cases m:t=u;rw[m,aA];rw[aB m];exact h)
  have k2:s.L y≠none:=λh=>f (by show upd s.L u none y=none;by_cases m:y=u;rw[m,aA];rw[aB m];exact h);exact hs.inj t y k1 k2
 ·have f:upd s.env u (true, .pv (.rp cs)) t=(b, .adr v off):=e
  by_cases h:t=u
  ·rw[h,aA]at f;cases f
  ·rw[aB h]at f;exact hs.ad t b v off f
 ·refine hs.adL t λh=>e ?_
  show upd s.L u none t=none;by_cases m:t=u
  ·rw[m,aA]
  ·rw[aB m];exact h
theorem aiN{b:Code}(u:Nat){T:TypeId}(hx:s.env u=(true, .adr u 0))(hL:s.L u=some (T,cs))(k:PWp P b Q (s.frozen u cs)):PWp P b Q s:=by
 intro c a w g lam hs;have⟨g',h⟩:=hs.freeze u hx hL;exact k c a w _ _ h
theorem bO{r:List Oper}(u:Nat){T:TypeId}(hx:s.env u=(true, .adr u 0))(hL:s.L u=some (T,cs))(k:Ev P l .seq (o::r) (s.frozen u cs) K):Ev P l .seq (o::r) s K:=by
 intro c a w g lam hs;have⟨g',h⟩:=hs.freeze u hx hL;exact k c a w _ _ h
theorem SI.freezeMap{c:Ctx}{a:Act}{lam:Nat->Nat}(hs:SI P c s a w g lam)(u:Nat){es:List (Value×PV)}(hx:s.env u=(true, .pv (.mref id)))(y:s.st id=some (.map es)):∃g',SI P c ((s.sst (upd s.st id none)).pv u (.fmap es)) a w g' lam:=by
 have A:=hs.mem.obj id _ y;simp only[ObjOK]at A;have⟨b,n,cap,m,i,E,I,F,h4,h5,J⟩:=A;have x:Go.Abs.blk g id=some b:=by simp[Go.Abs.blk,E,I]
 have hb:w.heap[b]?=some (.map m i):=by rw[<-hs.mem.heap];exact F
 let g':G:={g with fm:=λb'=>b'=b\/g.fm b'}
 have p:Le g g':=⟨λ_ _ h=>h,λ_=>znr _,λ_ _ _=>rfl,λ_ h=>⟨.inr h,rfl⟩⟩;have D:¬Blocks (upd s.st id none) g b:=λ⟨j,C,M⟩=>by
  by_cases h:j=id
  ·rw[h,aA]at C;exact C rfl
  ·rw[aB h]at C
   exact h (hs.mem.inj j id b C (by rw[y];simp) M x)
 have q:StSub (upd s.st id none) s.st:=λj=>by
  by_cases h:j=id
  ·left;rw[h,aA]
  ·right;rw[aB h]
 have hm:MemOK P (upd s.st id none) w g':=by
  have k:=hs.mem.sub q;refine⟨k.heap,λj o e=>(k.obj j o e).keep p λb' f=>⟨rfl,rfl,?_⟩,k.inj,k.lt,λb' f=>?_,k.fin⟩
  ·constructor
   ·rintro(h|h)
    ·exact absurd ⟨j,by rw[e];simp,h▸f⟩ D
    ·exact h
   ·exact .inr
  ·rcases f with rfl|f
   ·exact⟨m,i,hb,J.weak⟩
   ·exact k.fmm b' f
 have L:=hs.blk b ⟨id,by rw[y];simp,x⟩;refine⟨g',hm,hs.le.trans p,⟨hs.frame.os,hs.frame.tape,hs.frame.output,hs.frame.size,λb' f hn=>?_⟩,λb' f=>hs.blk b' (Blocks.sub q f),λt=>?_,λt U ds e=>?_,hs.inj,λt bb v off e=>?_,hs.adL,hs.defers,hs.n,hs.top⟩
 ·have⟨S,T,V⟩:=hs.frame.old b' f hn
  grind
 ·show EntOK g' lam (upd s.env u _ t) _
  by_cases h:t=u
  ·subst h
   rw[aA];have:=hs.env t;rw[hx]at this;simp only[EntOK,Rep]at this⊢;have⟨b',n',cap',z,H⟩:=this;rw[E]at z;injection z with z;injection z with z e3;subst z
   exact⟨b,m,i,H, .inl rfl,F,RepE.mono p _ _ h4⟩
  ·rw[aB h];exact(hs.env t).mono p
 ·have⟨R,k1,k2,N,O,Q⟩:=hs.box t U ds e
  exact⟨R,k1,RepL.mono p _ _ k2,N,O,λhh=>Q (Blocks.sub q hh)⟩
 ·have B:upd s.env u (true, .pv (.fmap es)) t=(bb, .adr v off):=e
  by_cases h:t=u
  ·rw[h,aA]at B;cases B
  ·rw[aB h]at B;exact hs.ad t bb v off B
theorem lK{e:Code}(u:Nat){es:List (Value×PV)}(hx:s.env u=(true, .pv (.mref id)))(b:s.st id=some (.map es))(k:PWp P e Q ((s.sst (upd s.st id none)).pv u (.fmap es))):PWp P e Q s:=by
 intro c a w g lam hs;have⟨g',h⟩:=hs.freezeMap u hx b;exact k c a w _ _ h
theorem rW{r:List Oper}(u:Nat){es:List (Value×PV)}(hx:s.env u=(true, .pv (.mref id)))(b:s.st id=some (.map es))(k:Ev P l .seq (o::r) ((s.sst (upd s.st id none)).pv u (.fmap es)) K):Ev P l .seq (o::r) s K:=by
 intro c a w g lam hs;have⟨g',h⟩:=hs.freezeMap u hx b;exact k c a w _ _ h
mutual
def lens :PV->Prop
 | .seq rows=>rows.length<2^62/\wH rows
 | .own _ rows=>rows.length<2^62/\wH rows
 | .agg cs=>qM cs
 | .tup cs=>qM cs
 | .rp cs=>qM cs
 |_=>True
def qM :List PV->Prop
 |[]=>True
 |p::ps=>lens p/\qM ps
def wH :List (List PV)->Prop
 |[]=>True
 |r::rs=>qM r/\wH rs
end
mutual
theorem Rep.lens{g:G}:∀(p:PV)(v:Value),Rep g p v->lens p
 | .seq rows,_,h=>by
  simp only[Rep]at h
  simp only[Go.Abs.lens]
  have⟨a,cap,_,_,c,h⟩:=h
  refine⟨c,?_⟩
  rcases h with h|⟨b,off,sz,_,h⟩
  ·subst h;simp[wH]
  ·exact RepR.lens b off sz rows h
 | .own id rows,_,h=>by
  simp only[Rep]at h
  simp only[Go.Abs.lens]
  have⟨b,cap,sz,_,e,c,h⟩:=h
  refine⟨c,?_⟩
  rcases h with⟨h,_⟩|⟨_,_,h⟩
  ·have:rows=[]:=List.length_eq_zero_iff.1 (by omega)
   subst this;simp[wH]
  ·exact RepR.lens b 0 sz rows h
 | .agg cs,_,h=>by
  simp only[Rep]at h
  have⟨vs,_,h⟩:=h
  simp only[Go.Abs.lens]
  exact RepL.lens cs vs h
 | .tup cs,_,h=>by
  simp only[Rep]at h
  have⟨vs,_,h⟩:=h
  simp only[Go.Abs.lens]
  exact RepL.lens cs vs h
 | .rp cs,_,h=>by
  simp only[Rep]at h
  have⟨b,off,_,h⟩:=h
  simp only[Go.Abs.lens]
  exact RepA.lens b off cs h
 | .und,_,_=>by simp[Go.Abs.lens]
 | .val _,_,_=>by simp[Go.Abs.lens]
 | .fn _ _,_,_=>by simp[Go.Abs.lens]
 | .fmap _,_,_=>by simp[Go.Abs.lens]
 | .ref _ _,_,_=>by simp[Go.Abs.lens]
 | .vec _ _ _ _,_,_=>by simp[Go.Abs.lens]
 | .el _ _ _ _,_,_=>by simp[Go.Abs.lens]
 | .mref _,_,_=>by simp[Go.Abs.lens]
 | .emp,_,_=>by simp[Go.Abs.lens]
 | .yld _,_,_=>by simp[Go.Abs.lens]
theorem RepL.lens{g:G}:∀(ps:List PV)(vs:List Value),RepL g ps vs->qM ps
 |[],_,_=>by simp[qM]
 |p::ps,vs,h=>by
  simp only[RepL]at h
  have⟨v,a,_,b,c⟩:=h
  simp only[qM]
  exact⟨Rep.lens p v b,RepL.lens ps a c⟩
theorem RepA.lens{g:G}(b off:Nat):∀(ps:List PV),RepA g b off ps->qM ps
 |[],_=>by simp[qM]
 |p::ps,h=>by
  simp only[RepA]at h
  obtain⟨⟨v,_,_,a⟩,c⟩:=h
  simp only[qM]
  exact⟨Rep.lens p v a,RepA.lens b (off+1) ps c⟩
theorem RepR.lens{g:G}(b off sz:Nat):∀(rs:List (List PV)),RepR g b off sz rs->wH rs
 |[],_=>by simp[wH]
 |r::rs,h=>by
  simp only[RepR]at h
  simp only[wH]
  exact⟨RepA.lens b off r h.2.1,RepR.lens b (off+sz) sz rs h.2.2⟩
end
end
end
end Go.Abs
