import Derived.Test.YtigmnfepdlbcpaaGreatDoorAbsG
import Derived.Lib.AppendZerosOnto
import Derived.Laws.Externs
import Derived.Deep.Draws
set_option linter.all false
namespace Go.Abs
open Go
variable{w:World}{b new rows u:List (List PV)}{id len off sz:Nat}{st:aD}{g:G}{s:St}{Q:Exit->St->Prop}{dst:Option Nat}{e tS tx ty:TypeId}{pos:String}{after:Array Edge}{f h x y:Operand}{p q:PV}{news sp:List Value}{o:Oper}{k kn kq:IntKind}{D j:Array TypeId}{args cs:List PV}{lo:Option Operand}{P:Program}{m:Option AObj}{R:PV->aD->Prop}{a c i n:Int}
section
theorem pT{g:G}:∀(vs:List Value),RepL g (List.replicate vs.length .und) vs
 |[]=>rfl
 |v::vs=>by
  exact⟨v,vs,rfl,by simp[Rep],pT _⟩
def aX(k sz:Nat):List (List PV):=List.replicate k (List.replicate sz .und)
theorem pL(k sz:Nat):(aX k sz).flatten=List.replicate (k*sz) .und:=by
 unfold aX;simp
theorem tZ{b:Nat}{cur:Array Value}{T:TypeId}(h:w.heap[b]?=some (.cells cur T (0,0))):w.setRow b cur=w:=by
 have:(w.setRow b cur).heap=w.heap:=by
  apply Array.ext_getElem?;intro i;by_cases e:i=b
  ·subst e;rw[setRow_heap w i _ _ T _ h,h]
  ·exact bX w b _ i e
 simp only[World.setRow]at this⊢;rw[this]
section
variable{P:Program}{tt:TT}
theorem gA(h:∀r∈rows,r.length=sz):rows.flatten.length=rows.length*sz:=by
 induction rows with
 |nil=>simp
 |cons r rs ih=>grind
theorem aIb(hm:MemOK P st w g){T:TypeId}(m:Nat)(p:st id=some (.arr T rows))(hT:P.cellsOf T=sz)(h0:0<rows.length)(E:rows.length+m<2^62):
  ∃k o a g',((k<m/\o= .full T (rows++aX k sz))\/(k=m/\o= .arr T (rows++aX k sz)))/\st a=none/\MemOK P (upd (upd st id none) a (some o)) w g'/\Le g g'/\Frame (Blocks st g) w g w g'/\(∀b',Blocks (upd (upd st id none) a (some o)) g' b'->Blocks st g b'\/w.heap.size<=b')/\∀v,Rep g (.vec id sz 0 rows.length) v->Rep g' (.vec a sz 0 rows.length) v:=by
 have x:=hm.obj id _ p
 simp only[ObjOK]at x
 obtain⟨b,cap,t1,⟨_,t0⟩|⟨t2,vs,sp,Z,A,B,O,Q,R⟩⟩:=x
 ·rw[t0]at h0;simp at h0
 rw[hm.heap]at A
 rw[hT]at B O
 have H:=Q.length
 rw[gA O]at H
 have y:sp.length=(cap-rows.length)*sz:=by
  have:=Nat.sub_mul cap rows.length sz;rw[zla]at B;omega
 have u:∀k,∀r∈rows++aX k sz,r.length=P.cellsOf T:=λk r X=>by
  rw[hT]
  rcases zma.1 X with h|h
  ·exact O r h
  ·unfold aX at h;rw[List.eq_of_mem_replicate h,List.length_replicate]
 have j:∀k,(rows++aX k sz).length=rows.length+k:=λk=>by rw[zla];unfold aX;rw[List.length_replicate]
 by_cases f:rows.length+m<=cap
 ·have F:m*sz<=sp.length:=by rw[y];exact Nat.mul_le_mul_right _ (by omega)
  have⟨a,g',W,C,D,m1,M,z,N⟩:=vQ (n':=rows.length+m) (xs:=(vs++sp).toArray) (o':= .arr T (rows++aX m sz)) hm (by rw[p];simp) t1 t2 A R (λg' a n I J L=>by
   simp only[ObjOK]
   refine⟨b,cap,by rw[j];exact I, .inr ⟨t2,vs++sp.take (m*sz),sp.drop (m*sz),by rw[j];exact f,?_,?_,u m,?_,L⟩⟩
   ·rw[J,zas,List.take_append_drop]
   ·rw[zas,List.take_append_drop,hT];exact B
   ·rw[List.flatten_append,pL]
    refine(RepL.mono n _ _ Q).append ?_;have:=pT (g:=g') (sp.take (m*sz));rwa[zlt,Nat.min_eq_left F]at this)
  rw[tZ A]at m1 z;refine⟨m,_,a,g', .inr ⟨rfl,rfl⟩,C,m1,M,z,N,λv hv=>?_⟩;simp only[Rep]at hv⊢;have⟨b2,Y,q,c,S,U,V,e⟩:=hv;rw[t1]at c;injection c with c;injection c with c e1';injection e1' with e1' e1'';subst c;subst e1';subst e1''
  rcases e with e|e
  ·exact absurd e.1 t2
  ·exact⟨b,rows.length+m,cap,D,by omega,f,E, .inr e⟩
 ·have⟨a,g',W,C,D,m1,M,z,N⟩:=vQ (n':=cap) (xs:=(vs++sp).toArray) (o':= .full T (rows++aX (cap-rows.length) sz)) hm (by rw[p];simp) t1 t2 A R (λg' a n I J L=>by
   have i:(rows++aX (cap-rows.length) sz).length=cap:=by rw[j];omega
   simp only[ObjOK];refine⟨b,vs++sp,by rw[i];exact I,by omega,J,by rw[i,hT];exact B,u _,?_,L⟩;rw[List.flatten_append,pL,<-y];exact(RepL.mono n _ _ Q).append (pT sp))
  rw[tZ A]at m1 z;refine⟨cap-rows.length,_,a,g', .inl ⟨by omega,rfl⟩,C,m1,M,z,N,λv hv=>?_⟩;simp only[Rep]at hv⊢;have⟨b2,Y,q,c,S,U,V,e⟩:=hv;rw[t1]at c;injection c with c;injection c with c e1';injection e1' with e1' e1'';subst c;subst e1';subst e1''
  rcases e with e|e
  ·exact absurd e.1 t2
  ·exact⟨b,cap,cap,D,by omega,znr _,by omega, .inr e⟩
theorem SI.room{c:Ctx}{a:Act}{lam:Nat->Nat}(hs:SI P c s a w g lam)(u m:Nat){n:Nat}{T:TypeId}(hx:s.env u=(true, .pv (.vec id sz 0 n)))(p:s.st id=some (.arr T rows))(hT:P.cellsOf T=sz)(hn:rows.length=n)(h0:0<n)(j:n+m<2^62):
  ∃k o h g',((k<m/\o= .full T (rows++aX k sz))\/(k=m/\o= .arr T (rows++aX k sz)))/\s.st h=none/\SI P c ((s.sst (upd (upd s.st id none) h (some o))).pv u (.vec h sz 0 n)) a w g' lam:=by
 subst hn
 have⟨k,o,h,g',q,x,y,h4,h5,z,A⟩:=aIb hs.mem m p hT h0 j
 have f:=hs.step y h4 h5 z
 refine⟨k,o,h,g',q,x,?_⟩
 refine⟨f.mem,f.le,f.frame,f.blk,λt=>?_,f.box,f.inj,λt b v off e=>?_,f.adL,f.defers,f.n,f.top⟩
 ·show EntOK g' lam (upd _ u _ t) _
  by_cases ht:t=u
  ·subst ht
   rw[aA];have:=hs.env t;rw[hx]at this;exact A _ this
  ·rw[aB ht];exact f.env t
 ·have i:upd s.env u _ t=(b, .adr v _):=e
  by_cases ht:t=u
  ·rw[ht,aA]at i;cases i
  ·rw[aB ht]at i;exact hs.ad t b v off i
theorem yF{e:Code}(u m:Nat){n:Nat}{T:TypeId}(hx:s.env u=(true, .pv (.vec id sz 0 n)))(h:s.st id=some (.arr T rows))(hT:P.cellsOf T=sz)(hn:rows.length=n)(h0:0<n)(f:n+m<2^62)(k1:∀k b,k<m->s.st b=none->PWp P e Q ((s.sst (upd (upd s.st id none) b (some (.full T (rows++aX k sz))))).pv u (.vec b sz 0 n)))(k2:∀b,s.st b=none->PWp P e Q ((s.sst (upd (upd s.st id none) b (some (.arr T (rows++aX m sz))))).pv u (.vec b sz 0 n))):PWp P e Q s:=by
 intro c a w g lam hs
 obtain⟨k,o,b,g',⟨p,rfl⟩|⟨rfl,rfl⟩,i,j⟩:=hs.room u m hx h hT hn h0 f
 ·exact k1 k _ p i c a w _ _ j
 ·exact k2 _ i c a w _ _ j
theorem aJQ(hm:MemOK P st w g){k:Nat}{T:TypeId}(c:st id=some (.arr T rows)\/st id=some (.full T rows))(hT:P.cellsOf T=sz)(hk:k<=rows.length)(h0:0<rows.length):
  ∃a g',st a=none/\MemOK P (upd (upd st id none) a (some (.arr T (rows.take k)))) w g'/\Le g g'/\Frame (Blocks st g) w g w g'/\(∀b',Blocks (upd (upd st id none) a (some (.arr T (rows.take k)))) g' b'->Blocks st g b'\/w.heap.size<=b')/\∀v,Rep g (.vec id sz 0 k) v->Rep g' (.vec a sz 0 k) v:=by
 have key:∃b cap vs sp,g.io id=some (b,rows.length,cap)/\cap≠0/\rows.length<=cap/\g.heap[b]?=some (.cells (vs++sp).toArray T (0,0))/\(vs++sp:List Value).length=cap*P.cellsOf T/\(∀r∈rows,r.length=P.cellsOf T)/\RepL g rows.flatten vs/\g.fr b=0:=by
  rcases c with c|c
  ·have f:=hm.obj id _ c
   simp only[ObjOK]at f;obtain⟨b,cap,t1,⟨_,t0⟩|⟨t2,vs,sp,z,j,m,i,n,p⟩⟩:=f
   ·rw[t0]at h0;simp at h0
   ·exact⟨b,cap,vs,sp,t1,t2,z,j,m,i,n,p⟩
  ·have f:=hm.obj id _ c
   simp only[ObjOK]at f;have⟨b,vs,t1,t2,j,m,i,n,p⟩:=f;exact⟨b,rows.length,vs,[],t1,t2,znr _,by rw[List.append_nil];exact j,by rw[List.append_nil];exact m,i,n,p⟩
 have u:st id≠none:=by rcases c with h|h<;>rw[h]<;>simp
 have⟨b,cap,vs,sp,t1,t2,z,j,m,i,n,p⟩:=key
 rw[hm.heap]at j
 rw[hT]at m i
 have o:=n.length
 rw[gA i]at o
 have D:k*sz<=vs.length:=by rw[o];exact Nat.mul_le_mul_right _ hk
 have⟨a,g',L,A,M,m1,I,y,J⟩:=vQ (n':=k) (xs:=(vs++sp).toArray) (o':= .arr T (rows.take k)) hm u t1 t2 j p (λg' a q E F H=>by
  have hl:(rows.take k).length=k:=by rw[zlt];omega
  simp only[ObjOK]
  refine⟨b,cap,by rw[hl];exact E, .inr ⟨t2,vs.take (k*sz),vs.drop (k*sz)++sp,by rw[hl];omega,?_,?_,λr x=>by rw[hT];exact i r (List.mem_of_mem_take x),?_,H⟩⟩
  ·rw[F,<-zas,List.take_append_drop]
  ·rw[<-zas,List.take_append_drop,hT];exact m
  ·have e:rows.flatten=(rows.take k).flatten++(rows.drop k).flatten:=by rw[<-List.flatten_append,List.take_append_drop]
   have C:(rows.take k).flatten.length=k*sz:=by rw[gA λr x=>i r (List.mem_of_mem_take x),hl]
   have:=RepL.mono q _ _ n;rw[e]at this;have B:=this.take (k*sz);rwa[List.take_append_of_le_length (by omega),ztl (by omega)]at B)
 rw[tZ j]at m1 y
 refine⟨a,g',A,m1,I,y,J,λv hv=>?_⟩
 simp only[Rep]at hv⊢
 grind
theorem oA(hm:MemOK P st w g){T:TypeId}(a:st id=some (.arr T rows)\/st id=some (.full T rows))(h0:0<rows.length):
  ∃b cap vs sp,g.io id=some (b,rows.length,cap)/\cap≠0/\rows.length<=cap/\w.heap[b]?=some (.cells (vs++sp:List Value).toArray T (0,0))/\(vs++sp:List Value).length=cap*P.cellsOf T/\(∀r∈rows,r.length=P.cellsOf T)/\RepL g rows.flatten vs/\g.fr b=0/\(st id=some (.full T rows)->cap=rows.length):=by
 rcases a with a|a
 ·have c:=hm.obj id _ a
  obtain⟨b,cap,t1,⟨_,t0⟩|⟨t2,vs,sp,m,e,k,f,i,j⟩⟩:=c
  ·grind
  ·exact⟨b,cap,vs,sp,t1,t2,m,by rw[<-hm.heap];exact e,k,f,i,j,λh=>by grind⟩
 ·have c:=hm.obj id _ a
  have⟨b,vs,t1,t2,e,k,f,i,j⟩:=c;exact⟨b,rows.length,vs,[],t1,t2,znr _,by rw[List.append_nil,<-hm.heap];exact e,by grind,f,i,j,λ_=>rfl⟩
theorem nS{b n cap:Nat}{x:Value}(hx:Rep g (.vec id sz off len) x)(a:g.io id=some (b,n,cap))(hc:cap≠0):x= .slice (some ⟨b,off*sz,none⟩) len (cap-off)/\off+len<=n/\n<2^62:=by
 simp only[Rep]at hx
 grind
theorem afS{vs:List Value}(hl:∀r∈rows,r.length=sz)(hv:RepL g rows.flatten vs)(h:off+len<=rows.length):
  RepL g ((rows.drop off).take len).flatten ((vs.drop (off*sz)).take (len*sz))/\((vs.drop (off*sz)).take (len*sz)).length=len*sz:=by
 have c:rows.flatten=(rows.take off).flatten++((rows.drop off).take len).flatten++((rows.drop off).drop len).flatten:=by
  rw[zas,<-List.flatten_append,List.take_append_drop,<-List.flatten_append,List.take_append_drop]
 have f:(rows.take off).flatten.length=off*sz:=by rw[gA λr b=>hl r (List.mem_of_mem_take b),zlt];grind
 have e:((rows.drop off).take len).flatten.length=len*sz:=by rw[gA λr b=>hl r (List.mem_of_mem_drop (List.mem_of_mem_take b)),zlt,zld];congr 1;omega
 have a:=(hv.drop (off*sz)).take (len*sz)
 rw[c,zas,List.drop_append_of_le_length (by omega),List.drop_of_length_le (by omega),List.nil_append,List.take_append_of_le_length (by omega),ztl (by omega)]at a
 exact⟨a,by have:=a.length;rw[this,e]⟩
theorem aKe{T T2:TypeId}(htt:bI P tt)(hx:opd s x=some (.vec id sz off len))(hk:tiK tt T=some (.slice e))(f:s.st id=some (.arr T2 rows)\/s.st id=some (.full T2 rows))(h0:0<rows.length):
  OpZ P ⟨dst, .call ⟨.builtin .cap, #[x], #[T]⟩,ty,pos,after,none⟩ s λz=>∃c:Nat,rows.length-off<=c/\(s.st id=some (.full T2 rows)->c=rows.length-off)/\z=(s.st, .val (.int .i64 (c:Nat))):=by
 intro w g ρ hm hρ
 have i:=hρ x (by simp[Op.operands,Call.operands]) _ hx
 have⟨b,cap,vs,sp,t1,t2,n,o,p,q,u,v,j⟩:=oA hm f h0
 have⟨ex,k,m⟩:=nS i t1 t2
 have hu:=cD (aR htt hk).1
 have a:(execOp ρ (⟨dst, .call ⟨.builtin .cap, #[x], #[T]⟩,ty,pos,after,none⟩)).run P w= .ok (.value (.int .i64 ((cap-off:Nat):Int))) w:=cE rfl (by simp[builtin,Builtin.cap_,run_underlying hu,ex,goInt])
 rw[a]
 exact⟨g,_,⟨cap-off,by omega,λh=>by rw[j h],rfl⟩,rfl,hm,Le.refl g,Frame.refl _ _ _,λb hb=> .inl hb⟩
structure SrcN (P:Program) (sz:Nat) (tx:TypeId) (x:Value) (m n:Nat) (news:List Value) (w:World):Prop where
 len:(Builtin.lenOf x).run P w= .ok m w
 cells:(Builtin.firstCells sz n x).run P w= .ok news.toArray w
 newsLen:news.length=n*sz
 one:∀u∈news,u.oneCell'=true
def awR(P:Program)(s:St)(tx:TypeId)(x:Operand)(sz m n:Nat)(rows:List (List PV)):Prop:=
 ∀w g v,MemOK P s.st w g->(∀p,opd s x=some p->Rep g p v)->∃news,SrcN P sz tx v m n news w/\RepL g rows.flatten news
theorem uP(htt:bI P tt)(hx:opd s x=some p)(hp:gQ p=some rows)(hk:dM tt tx=true)(hl:∀r∈rows,r.length=sz)(a:∀r∈rows,r.all PV.one=true):awR P s tx x sz rows.length rows.length rows:=by
 intro w g v hm hv;have⟨news,hs,b⟩:=aoJ htt hm hp (hv p hx) hk hl a;exact⟨news,⟨hs.len w,hs.cells,hs.newsLen,hs.one⟩,b⟩
theorem aKh{m n:Nat}{T:TypeId}(hx:opd s x=some (.vec id sz off m))(a:s.st id=some (.arr T rows)\/s.st id=some (.full T rows))(h0:0<rows.length)(hT:P.cellsOf T=sz)(hn:n<=m)(o:∀r∈(rows.drop off).take n,r.all PV.one=true):awR P s tx x sz m n ((rows.drop off).take n):=by
 intro w g v hm hv;have⟨b,cap,vs,sp,t1,t2,p,h,i,f,k,q,_⟩:=oA hm a h0;obtain⟨rfl,hb,_⟩:=nS (hv _ hx) t1 t2;rw[hT]at i f;have⟨c,e⟩:=afS (off:=off) (len:=n) f k (by omega);refine⟨_,⟨rfl,run_firstCells_some w _ n _ m _ _ e λj u hj=>?_,e,c.ones (by grind)⟩,c⟩;rw[dA,dV h,List.getElem?_toArray]
 grind
def aU(rows:List (List PV))(off:Nat)(new:List (List PV)):List (List PV):=rows.take off++new++rows.drop (off+new.length)
theorem dX(h:off+new.length<=rows.length):(aU rows off new).length=rows.length:=by
 unfold aU
 grind
theorem avH(hm:MemOK P st w g){T:TypeId}(k:st id=some (.arr T rows))(hT:P.cellsOf T=sz)(h0:0<rows.length)(a:off+new.length<=rows.length)(hl:∀r∈new,r.length=sz)(hn:news.length=new.length*sz)(c:RepL g new.flatten news){b cap:Nat}{vs:List Value}(t1:g.io id=some (b,rows.length,cap))(t2:cap≠0)(A:rows.length<=cap)(B:w.heap[b]?=some (.cells (vs++sp).toArray T (0,0)))(C:(vs++sp).length=cap*sz)(j:∀r∈rows,r.length=sz)(m:RepL g rows.flatten vs)(o:g.fr b=0):
  ∃g',MemOK P (upd st id (some (.arr T (aU rows off new)))) (w.setRow b ((vs++sp).toArray.toList.take (off*sz)++news++(vs++sp).toArray.toList.drop (off*sz+news.length)).toArray) g'/\Le g g'/\Frame (Blocks st g) w g (w.setRow b ((vs++sp).toArray.toList.take (off*sz)++news++(vs++sp).toArray.toList.drop (off*sz+news.length)).toArray) g'/\(∀b',Blocks (upd st id (some (.arr T (aU rows off new)))) g' b'->Blocks st g b'\/w.heap.size<=b'):=by
 have i:=m.length
 rw[gA j]at i
 have n:off*sz+news.length<=vs.length:=by rw[hn,<-Nat.add_mul,i];exact Nat.mul_le_mul_right _ a
 refine abM hm (by rw[k];simp) t1 t2 B o λg' x y z e=>?_
 have f:=dX a
 simp only[ObjOK]
 refine⟨b,cap,by rw[f,x];exact t1, .inr ⟨t2,vs.take (off*sz)++news++vs.drop (off*sz+news.length),sp,by rw[f];exact A,?_,?_,λr c=>?_,?_,by rw[y];exact o⟩⟩
 ·rw[z]
  congr 2
  simp only[List.toList_toArray];rw[List.take_append_of_le_length (by omega),List.drop_append_of_le_length (by omega)];simp
 ·rw[hT,<-C]
  simp only[zla,zlt,zld];omega
 ·rw[hT]
  unfold aU at c;rcases zma.1 c with h|h
  ·rcases zma.1 h with h|h
   ·exact j r (List.mem_of_mem_take h)
   ·exact hl r h
  ·exact j r (List.mem_of_mem_drop h)
 ·unfold aU
  rw[List.flatten_append,List.flatten_append];have u:rows.flatten=(rows.take off).flatten++(rows.drop off).flatten:=by rw[<-List.flatten_append,List.take_append_drop]
  have v:rows.flatten=(rows.take (off+new.length)).flatten++(rows.drop (off+new.length)).flatten:=by rw[<-List.flatten_append,List.take_append_drop]
  have D:(rows.take off).flatten.length=off*sz:=by rw[gA λr c=>j r (List.mem_of_mem_take c),zlt];congr 1;omega
  have E:(rows.take (off+new.length)).flatten.length=off*sz+news.length:=by rw[gA λr c=>j r (List.mem_of_mem_take c),zlt,hn,<-Nat.add_mul];congr 1;omega
  have p:RepL g (rows.take off).flatten (vs.take (off*sz)):=by
   have h:=m.take (off*sz);rw[u,List.take_append_of_le_length (by omega),ztl (by omega)]at h;exact h
  have q:RepL g (rows.drop (off+new.length)).flatten (vs.drop (off*sz+news.length)):=by
   have h:=m.drop (off*sz+news.length);rw[v,List.drop_append_of_le_length (by omega),List.drop_of_length_le (by omega)]at h;exact h
  exact((RepL.mono e _ _ p).append (RepL.mono e _ _ c)).append (RepL.mono e _ _ q)
theorem aHt{T T2:TypeId}{m n:Nat}(htt:bI P tt)(hx:opd s x=some (.vec id sz off len))(hk:tiK tt T=some (.slice e))(hs:aP tt e=some sz)(j:s.st id=some (.arr e rows))(h0:0<rows.length)(i:awR P s T2 y sz m n new)(f:new.length=n)(hl:∀r∈new,r.length=sz)(o:n=min m len)(E:0<sz):
  OpZ P ⟨dst, .call ⟨.builtin .copy, #[x,y], #[T,T2]⟩,ty,pos,after,none⟩ s λz=>z=(upd s.st id (some (.arr e (aU rows off new))), .val (.int .i64 (n:Nat))):=by
 intro w g ρ hm hρ
 have I:=hρ x (by simp[Op.operands,Call.operands]) _ hx
 obtain⟨news,⟨J,s2,v,L⟩,D⟩:=i w g (ρ y) hm λp hp=>hρ y (by simp[Op.operands,Call.operands]) _ hp
 have⟨b,cap,vs,sp,t1,t2,M,A,B,q,C,N,_⟩:=oA hm (.inl j) h0
 have⟨ex,hb,_⟩:=nS I t1 t2
 have⟨k1,k2⟩:=aQ htt hs
 rw[k2]at B q
 have hu:=cD (aR htt hk).1
 subst f
 have k:=C.length
 rw[gA q]at k
 have u:off*sz+news.length<=vs.length:=by rw[v,<-Nat.add_mul,k];exact Nat.mul_le_mul_right _ (by omega)
 have⟨g',m1,F,G,H⟩:=avH (off:=off) (new:=new) hm j k2 h0 (by omega) hl v D t1 t2 M A B q C N
 have a:=run_storeCells_at (P:=P) b (off*sz) e news 0 (vs++sp).toArray w A (by simp only[List.size_toArray,zla];omega) L
 simp only[Nat.add_zero]at a
 have h:(execOp ρ (⟨dst, .call ⟨.builtin .copy, #[x,y], #[T,T2]⟩,ty,pos,after,none⟩:Oper)).run P w= .ok (.value (.int .i64 ((new.length:Nat):Int))) (w.setRow b ((vs++sp).toArray.toList.take (off*sz)++news++(vs++sp).toArray.toList.drop (off*sz+news.length)).toArray):=cE rfl (by
  have c:Nat.min m len=new.length:=o.symm
  simp only[builtin,Builtin.copy_,List.map_toArray,zmp,List.map_nil,List.getElem?_toArray,List.getElem?_cons_zero,List.getElem?_cons_succ,ex,Sem.run_bind,Sem.run_pure,Result.andThen_ok,run_underlying hu,J,c,aZ k1,s2,a,goInt])
 rw[h]
 exact⟨g',_,rfl,by simp[Rep],m1,F,G,H⟩
end
section
variable{P:Program}{tt:TT}{l:List Oper}{d:Md}{r:List Oper}{s:St}{K:St->Prop}{t:Nat}{op:Op}{ty:TypeId}{pos:String}{after:Array Edge}{gd:Option (Nat×Bool)}
theorem asB(pk:Pk P tt){T T2:TypeId}(hx:opd s x=some (.vec id sz off len))(hk:tiK tt T=some (.slice e))(hf:bS s [x]=true)(hd:Nat.blt t s.n=true)(a:s.st id=some (.arr T2 rows)\/s.st id=some (.full T2 rows))(h0:0<rows.length)(ht:jU d l r=true)(k:∀c:Nat,rows.length-off<=c->(s.st id=some (.full T2 rows)->c=rows.length-off)->Ev P l d r ((s.sst s.st).pv t (.val (.int .i64 (c:Nat)))) K):Ev P l d (⟨some t, .call ⟨.builtin .cap, #[x], #[T]⟩,ty,pos,after,none⟩::r) s K:=by
 refine eM (aKe pk.htt hx hk a h0) (λz hz=>aO (λ_ _ _ e=>by grind) hz) hf hd ht λz hz=>?_
 obtain⟨c,b,f,rfl⟩:=hz
 exact k c b f
theorem mO(pk:Pk P tt){T T2:TypeId}{m n:Nat}(hx:opd s x=some (.vec id sz off len))(hk:tiK tt T=some (.slice e))(hs:aP tt e=some sz)(hf:bS s [x,y]=true)(hd:iA ⟨dst, .call ⟨.builtin .copy, #[x,y], #[T,T2]⟩,ty,pos,after,none⟩ s=true)(f:s.st id=some (.arr e rows))(h0:0<rows.length)(b:awR P s T2 y sz m n new)(a:new.length=n)(hl:∀r∈new,r.length=sz)(c:n=min m len)(g:0<sz)(ht:jU d l r=true)(k:Ev P l d r ((s.sst (upd s.st id (some (.arr e (aU rows off new))))).put dst true (.pv (.val (.int .i64 (n:Nat))))) K):Ev P l d (⟨dst, .call ⟨.builtin .copy, #[x,y], #[T,T2]⟩,ty,pos,after,none⟩::r) s K:=by
 refine eM (aHt pk.htt hx hk hs f h0 b a hl c g) (λz hz=>aO (λ_ _ _ e=>by grind) hz) hf hd ht λz hz=>?_
 grind
end
end
section
section
variable{P:Program}{tt:TT}
theorem aF3(htt:bI P tt){T e T2 j:Nat}{hi:Option Operand}(ho:o.op= .slice T x none hi none)(hx:opd s x=some (.vec id sz 0 len))(hk:tiK tt T=some (.slice e))(hs:aP tt e=some sz)(f:s.st id=some (.arr T2 rows)\/s.st id=some (.full T2 rows))(h0:0<rows.length)(c:bnd s hi len j)(hj:j<=rows.length):
  OpV P o s (.vec id sz 0 j):=by
 refine aN λw g ρ hm hρ=>?_
 have k:=hρ x (by rw[ho];simp[Op.operands]) _ hx
 have hb:∀y,(none:Option Operand)=some y\/hi=some y->kC g s y (ρ y):=λy hy=>hρ y (by rw[ho];simp_all[Op.operands])
 have⟨b,cap,vs,sp,t1,t2,m,_⟩:=oA hm f h0
 have⟨ex,n,h⟩:=nS k t1 t2
 have hu:=cD (aR htt hk).1
 have a:=kU (P:=P) (w:=w) (sl:=true) (len:=len) (cap:=cap-0) (lo:=none) (i:=0) rfl c hb (Nat.zero_le j) (by omega)
 simp only[Option.map_none]at a
 refine⟨.slice (if cap-0=0 then some ⟨b,0*sz,none⟩else(some (⟨b,0*sz,none⟩:Addr)).map (·.add (0*sz))) (j-0) (cap-0-0),?_,?_⟩
 ·simp only[execOp,ho,Instr.sliceAt,Instr.slice,ex,Sem.run_bind,Sem.run_pure,Result.andThen_ok,run_underlying hu,aZ (aQ htt hs).1,Option.map_none,a]
 ·unfold Rep
  exact⟨b,rows.length,cap,t1,by omega,m,h, .inr ⟨t2,by simp[dA]⟩⟩
theorem axL(htt:bI P tt){T T2:TypeId}{i m:Nat}(B:Nat)(hx:opd s x=some (.vec id sz 0 i))(hy:opd s y=some (.val (.int kq (m:Nat))))(hk:tiK tt T=some (.slice e))(U:P.underlying T2=some (.int kn))(hs:aP tt e=some sz)(hz:(tiZ tt e).map List.length=some sz)(J:s.st id=some (.full e rows))(h0:0<rows.length)(hi:i<=rows.length)(D:rows.length<i+m)(hB:P.bytesOf e=B)(hb:(i+m)*B<=140737488355328)(Q:i+m<2^62)(L:0<sz):
  OpZ P ⟨dst, .call ⟨.builtin .append, #[x,y], #[T,T2]⟩,ty,pos,after,none⟩ s λz=>∃k,s.st k=none/\z=(upd s.st k (some (.arr e (rows.take i++aX m sz))), .vec k sz 0 (i+m)):=by
 intro w g ρ hm hρ
 have rx:=hρ x (by simp[Op.operands,Call.operands]) _ hx
 have ry:=aL (hρ y (by simp[Op.operands,Call.operands]) _ hy)
 have hu:=cD (aR htt hk).1
 have⟨k1,k2⟩:=aQ htt hs
 have⟨b,cap,vs,sp,t1,t2,t3,t4,t5,O,t7,t8,t9⟩:=oA hm (.inr J) h0
 have A:=t9 J
 subst A
 have⟨ex,_,_⟩:=nS rx t1 t2
 rw[k2]at t5 O
 cases a:P.info? e with
 |none=>rw[a]at k1;cases k1
 |some ii=>
  have W:ii.size=sz:=by rw[a]at k1;simpa using k1
  have R:ii.bytes=B:=by rw[<-hB];simp[Program.bytesOf,a]
  subst W;subst R;have X:=t7.length;rw[gA O]at X;cases v:tiZ tt e with
  |none=>rw[v]at hz;cases hz
  |some zl=>
   rw[v]at hz;simp only[Option.map_some,Option.some.injEq]at hz;have⟨z,z1,z2⟩:=nH htt v;have S:ii.zero=some z:=by rw[a]at z1;simpa using z1
   have N:z.cells.size=ii.size:=by rw[<-hz,<-z2];simp
   have C:=growslice_fits D hb;have⟨Z,Y⟩:=afS (off:=0) (len:=i) O t7 (by omega);rw[Nat.zero_mul,List.drop_zero,List.drop_zero]at Z;rw[Nat.zero_mul,List.drop_zero]at Y;have G:=run_firstCells_some (P:=P) w.drew ii.size i ⟨b,0,none⟩ i rows.length (vs.take (i*ii.size)) Y (λj u hj=>by
    rw[dA,Nat.zero_add,dV (w:=w.drew) (c:=(vs++sp).toArray) t4]
    simp only[List.getElem?_toArray]
    have f:=hj
    rw[List.getElem?_take]at f
    split at f
    ·rw[List.getElem?_append_left (zge.1 f).1];exact f
    ·cases f)
   have hmb:m*ii.bytes<=(i+m)*ii.bytes:=Nat.mul_le_mul_right _ (by omega);have q:=Go.Lib.run_append_grow_zeros w T T2 ty e ii z kq kn hu U a S (some ⟨b,0,none⟩) i rows.length (vs.take (i*ii.size)) G m (by omega) L D (by omega) (by omega) C
   let p:=grownCap w (i+m) rows.length e
   have F:i+m<=p:=by show _<=grownCap _ _ _ _;simp only[grownCap,Question.cut];omega
   have E:(Builtin.zeroCells z.cells (p-(i+m))).size=(p-(i+m))*ii.size:=by rw[size_zeroCells,N]
   have hq:(Builtin.zeroCells z.cells (p-(i+m))).toList.length=(p-(i+m))*ii.size:=by rw[<-E];exact Array.length_toList
   have H:(Builtin.zeroCells z.cells m).toList.length=m*ii.size:=by rw[Array.length_toList,size_zeroCells,N]
   have M:(rows.take i++aX m ii.size).length=i+m:=by rw[zla,zlt];unfold aX;rw[List.length_replicate];omega
   have⟨k,g',f1,f2,f3,m1,m2,m3,m4⟩:=nX (w0:=w.drew) (o:= .cells ((vs.take (i*ii.size)).toArray++Builtin.zeroCells z.cells m++Builtin.zeroCells z.cells (p-(i+m))) e) (n:=i+m) (cap:=p) (o':= .arr e (rows.take i++aX m ii.size)) hm (by omega) ⟨rfl,rfl,⟨rfl,Nat.le_succ _⟩,rfl⟩ (λg' id V i1 i2 i3 _=>by
    simp only[ObjOK]
    refine⟨w.heap.size,p,by rw[M];exact i1, .inr ⟨by omega,vs.take (i*ii.size)++(Builtin.zeroCells z.cells m).toList,(Builtin.zeroCells z.cells (p-(i+m))).toList,by rw[M];exact F,?_,?_,λr hr=>?_,?_,i3⟩⟩
    ·rw[i2];congr 2;apply Array.toList_inj.1;simp
    ·rw[zla,zla,Y,H,hq,k2,<-Nat.add_mul,<-Nat.add_mul];congr 1;omega
    ·rw[k2]
     rcases zma.1 hr with h|h
     ·exact O r (List.mem_of_mem_take h)
     ·unfold aX at h;rw[List.eq_of_mem_replicate h,List.length_replicate]
    ·rw[List.flatten_append,pL,<-H];exact(RepL.mono V _ _ Z).append (pT _))
   have I:(execOp ρ (⟨dst, .call ⟨.builtin .append, #[x,y], #[T,T2]⟩,ty,pos,after,none⟩:Oper)).run P w=_:=cE rfl (by
    simp only[builtin,List.map_toArray,zmp,List.map_nil]
    rw[ex,ry,Nat.zero_mul,Nat.sub_zero]
    simp only[Sem.run_bind,q,Result.andThen_ok,Sem.run_pure];rfl)
   rw[I];refine⟨g',_,⟨k,f2,rfl⟩,?_,m1,m2,m3,m4⟩;simp only[Rep];exact⟨_,_,_,f3,by omega,F,Q, .inr ⟨by omega,by simp[p]⟩⟩
theorem aEr(htt:bI P tt){T:TypeId}{E:List Value}(hx:opd s x=some (.vec id sz off len))(hk:tiK tt T=some (.slice e))(hs:aP tt e=some sz)(hz:tiZ tt e=some E)(B:E.length=sz)(L:E.all (·.oneCell')=true)(q:s.st id=some (.arr e rows))(h0:0<rows.length)(hl:0<len)(a:off+len<=rows.length):
  OpZ P ⟨dst, .call ⟨.builtin .clear, #[x], #[T]⟩,ty,pos,after,none⟩ s λz=>z=(upd s.st id (some (.arr e (aU rows off (aX len sz)))), .und):=by
 intro w g ρ hm hρ
 have Q:=hρ x (by simp[Op.operands,Call.operands]) _ hx
 have⟨b,cap,vs,sp,t1,t2,R,H,I,D,J,S,_⟩:=oA hm (.inl q) h0
 have⟨ex,hb,_⟩:=nS Q t1 t2
 have⟨k1,k2⟩:=aQ htt hs
 rw[k2]at I D
 have hu:=cD (aR htt hk).1
 have⟨z,z1,z2⟩:=nH htt hz
 have C:z.cells.size=sz:=by rw[<-B,<-z2];simp
 let news:=(Builtin.zeroCells z.cells len).toList
 have f:news.length=len*sz:=by show(Builtin.zeroCells z.cells len).toList.length=_;rw[Array.length_toList,size_zeroCells,C]
 have j:(aX len sz).length=len:=by unfold aX;rw[List.length_replicate]
 have n:∀v∈news,v.oneCell'=true:=λv hv=>by
  have u:v∈(Builtin.zeroCells z.cells len):=Array.mem_toList_iff.1 hv
  simp only[Builtin.zeroCells,Array.mem_map,Array.mem_range]at u
  obtain⟨i,hi,rfl⟩:=u
  have o:0<z.cells.size:=by
   rcases Nat.eq_zero_or_pos z.cells.size with h|h
   ·rw[h]at hi;omega
   ·exact h
  have m:i%z.cells.size<z.cells.size:=Nat.mod_lt _ o
  rw[getElem!_pos z.cells _ m]
  exact zal.1 L _ (by rw[<-z2];exact Array.mem_toList_iff.2 (Array.getElem_mem m))
 have y:=J.length
 rw[gA D]at y
 have A:off*sz+news.length<=vs.length:=by rw[f,<-Nat.add_mul,y];exact Nat.mul_le_mul_right _ a
 have⟨g',m1,M,N,O⟩:=avH (off:=off) (new:=aX len sz) (news:=news) hm q k2 h0 (by rw[j];exact a) (λr F=>by unfold aX at F;rw[List.eq_of_mem_replicate F,List.length_replicate]) (by rw[j];exact f) (by rw[pL,<-f];exact pT news) t1 t2 R H I D J S
 have c:=run_storeCells_at (P:=P) b (off*sz) e news 0 (vs++sp).toArray w H (by simp only[List.size_toArray,zla];omega) n
 simp only[Nat.add_zero]at c
 obtain⟨G,rfl⟩:∃k,len=k+1:=⟨len-1,by omega⟩
 have p:(execOp ρ (⟨dst, .call ⟨.builtin .clear, #[x], #[T]⟩,ty,pos,after,none⟩:Oper)).run P w= .ok (.value (.tuple #[])) (w.setRow b ((vs++sp).toArray.toList.take (off*sz)++news++(vs++sp).toArray.toList.drop (off*sz+news.length)).toArray):=cE rfl (by
  simp only[builtin,Builtin.clear_,List.map_toArray,zmp,List.map_nil,List.getElem?_toArray,List.getElem?_cons_zero,ex,Sem.run_bind,Sem.run_pure,Result.andThen_ok,run_underlying hu,cI z1,c,news])
 rw[p]
 exact⟨g',_,rfl,by unfold Rep;trivial,m1,M,N,O⟩
theorem abR (w:World) (tS tR e:TypeId) (ht:P.underlying tS=some (.slice e)) (size:Nat) (hz:∀w,(Go.sizeOf e).run P w= .ok size w)
    (a b:Addr) (la ca lb cb:Nat) (hne:a.block≠b.block) (tA tB:TypeId) (kA kB:Nat)
    (hsa:w.shape? a.block=some (tA,kA)) (hsb:w.shape? b.block=some (tB,kB)) (hkA:kA≠0) (hkB:kB≠0)
    (hfb:w.frozen? b=false) (hfe:w.frozen? {block:=b.block,off:=kB}=false):
    (Extern.SlicesOverlaps.overlaps #[tS,tS] #[tR] #[.slice (some a) la ca, .slice (some b) lb cb]).run P w= .ok (.bool false) w:=by
  have hnb:(a.block !=b.block)=true:=by simpa using hne
  have hnb':(a.block==b.block)=false:=by simpa using hne
  change Sem.run P (α:=Value) (do
    let some t := (#[tS, tS] : Array TypeId)[0]? | stuck "slices.overlaps: no parameter types"
    let .slice elem <-underlying t|stuck _
    let size <-sizeOf elem
    match (some a:Option Addr),(some b:Option Addr) with
    |some a,some b=>
      if la=0\/lb=0\/size=0 then pure (Value.bool false)
      else if a.block !=b.block&&(<-frozen a)&&(<-frozen b) then unsupported .addressObserved
      else do
        if a.block !=b.block then do
          noView a;noView b
          if <- mayBeOne a b then return Value.bool ((<- choose (.extern "sameAddr.stringBytes" 2)) == 1)
        pure (Value.bool (a.block==b.block&&a.off<b.off+lb*size&&b.off<a.off+la*size))
    |_,_=>pure (Value.bool false)) w=_
  by_cases h0:la=0\/lb=0\/size=0
  · simp [run_underlying ht,hz,h0]
  · cases kB with
    |zero=>exact absurd rfl hkB
    |succ kB=>
      cases kA with
      |zero=>exact absurd rfl hkA
      |succ kA=>
      cases h1:w.frozen? a<;>cases h2:w.frozen? {block:=a.block,off:=kA+1}<;>
        simp [run_underlying ht,hz,h0,hnb,hnb',frozen,noView,viewAt,mayBeOne,stringish,shape,Sem.run,hsa,hsb,hfb,hfe,h1,h2]
theorem aIr (htt : bI P tt) {o : Oper} {s : St} {fo x y : Operand} {ts : Array TypeId} {fid : FuncId} {fn : Func} {tS tR e T2 : TypeId} {sz id off len : Nat} {rows rs : List (List PV)} {c : PV} {cs : List PV} {rest : List (List PV)} (ho : o.op = .call ⟨.value fo, #[x, y], ts⟩) (hf : opd s fo = some (.fn fid [])) (hfn : P.funcs[fid]? = some fn) (hn : (fn.name == "runtime.NumGoroutine") = false) (hb : fn.body.isNone = true) (hnx : Extern.findNext fn = none) (he : Extern.find fn = some (Extern.SlicesOverlaps.overlaps #[tS, tS] #[tR]))
    (hk:tiK tt tS=some (.slice e)) (hs:aP tt e=some sz) (hx:opd s x=some (.seq rs)) (hrs:rs=(c::cs)::rest) (hy:opd s y=some (.vec id sz off len)) (hst:s.st id=some (.arr T2 rows)\/s.st id=some (.full T2 rows)) (h0:0<rows.length) (hT:P.cellsOf T2=sz) (hsz:0<sz):
    OpV P o s (.val (.bool false)):=by
  subst hrs
  refine aN λw g ρ hm hρ=> ?_
  have rf:=hρ fo (by rw [ho];simp [Op.operands,Call.operands]) _ hf
  have rx:=hρ x (by rw [ho];simp [Op.operands,Call.operands]) _ hx
  have ry:=hρ y (by rw [ho];simp [Op.operands,Call.operands]) _ hy
  simp only [Rep] at rf
  obtain ⟨vs0,ef,rf⟩:=rf
  simp only [RepL] at rf
  subst rf
  obtain ⟨b,cap,vs,sp,t1,t2,t3,t4,t5,t6,t7,t8,t9⟩:=oA hm hst h0
  obtain ⟨ey,_,_⟩:=nS ry t1 t2
  simp only [Rep] at rx
  obtain ⟨a,cap2,ex,_,_,h4⟩:=rx
  rcases h4 with h4|⟨b2,off2,sz2,ha,hR⟩
  · cases h4
  · subst ha
    simp only [RepR,RepA] at hR
    obtain ⟨_,⟨⟨v,hv,hlt,_⟩,_⟩,_⟩:=hR
    have hne:b2≠b:=λe=>by rw [e,t8] at hlt;omega
    rw [hm.heap] at hv
    have hA:∃tA kA,w.shape? b2=some (tA,kA)/\kA≠0:=by
      unfold bB at hv
      unfold World.shape?
      split at hv
      · rename_i c0 T0 f0 hc
        refine ⟨T0,c0.size,by rw [hc],λe=> ?_⟩
        rw [Array.getElem?_eq_none (by omega)] at hv;cases hv
      · cases hv
    obtain ⟨tA,kA,hsa,hka⟩:=hA
    have hsb:w.shape? b=some (T2,(vs++sp).toArray.size):=by unfold World.shape?;rw [t4]
    have hkb:(vs++sp).toArray.size≠0:=by
      rw [List.size_toArray,t5,hT]
      exact Nat.mul_ne_zero t2 (by omega)
    have hfr:∀o,w.frozen? ⟨b,o,none⟩=false:=λo=>by unfold World.frozen?;simp only [t4];simp
    have hu:=cD (aR htt hk).1
    have hov:=abR (P:=P) w tS tR e hu sz (λw=>aZ (aQ htt hs).1) ⟨b2,off2,none⟩ ⟨b,off*sz,none⟩ ((c::cs)::rest).length cap2 len (cap-off) hne tA T2 kA _ hsa hsb hka hkb (hfr _) (hfr _)
    refine ⟨.bool false, ?_,by simp [Rep]⟩
    have hcf:=run_callFunc_extern (P:=P) hfn hn hb hnx he #[ρ x,ρ y] w
    rw [ex,ey,hov] at hcf
    simp only [execOp,ho,resolve,ef,Deferred.ofValue,Sem.run_bind,Sem.run_pure,Result.andThen_ok,invoke,List.map_toArray,zmp,List.map_nil]
    simpa [ex,ey] using hcf
theorem SI.cut{c:Ctx}{a:Act}{lam:Nat->Nat}(hs:SI P c s a w g lam)(u k:Nat){T:TypeId}(hx:s.env u=(true, .pv (.vec id sz 0 k)))(j:s.st id=some (.arr T rows)\/s.st id=some (.full T rows))(hT:P.cellsOf T=sz)(hk:k<=rows.length)(h0:0<rows.length):
  ∃h g',s.st h=none/\SI P c ((s.sst (upd (upd s.st id none) h (some (.arr T (rows.take k))))).pv u (.vec h sz 0 k)) a w g' lam:=by
 have⟨h,g',m,o,h4,h5,p,q⟩:=aJQ hs.mem j hT hk h0
 have f:=hs.step o h4 h5 p
 refine⟨h,g',m,?_⟩
 refine⟨f.mem,f.le,f.frame,f.blk,λt=>?_,f.box,f.inj,λt b v off e=>?_,f.adL,f.defers,f.n,f.top⟩
 ·show EntOK g' _ (upd _ u _ t) _
  by_cases ht:t=u
  ·subst ht
   rw[aA];have:=hs.env t;rw[hx]at this;exact q _ this
  ·rw[aB ht];exact f.env t
 ·have i:upd s.env u _ t=(b, .adr v _):=e
  by_cases ht:t=u
  ·rw[ht,aA]at i;cases i
  ·rw[aB ht]at i;exact hs.ad t b v off i
theorem aKj{f:Code}(u k:Nat){T:TypeId}(hx:s.env u=(true, .pv (.vec id sz 0 k)))(e:s.st id=some (.arr T rows)\/s.st id=some (.full T rows))(hT:P.cellsOf T=sz)(hk:k<=rows.length)(h0:0<rows.length)(j:∀b,s.st b=none->PWp P f Q ((s.sst (upd (upd s.st id none) b (some (.arr T (rows.take k))))).pv u (.vec b sz 0 k))):PWp P f Q s:=by
 intro c a w g lam hs
 have⟨b,g',h,i⟩:=hs.cut u k hx e hT hk h0
 exact j _ h c a w _ _ i
end
section
variable{P:Program}{tt:TT}{l:List Oper}{d:Md}{r:List Oper}{s:St}{K:St->Prop}{t:Nat}{op:Op}{ty:TypeId}{pos:String}{after:Array Edge}{gd:Option (Nat×Bool)}
theorem adK(pk:Pk P tt){T e T2 j:Nat}{hi:Option Operand}{w:Bool}(hw:bG l ⟨some t, .slice T x none hi none,ty,pos,after,gd⟩ s=some w)(hx:opd s x=some (.vec id sz 0 len))(hk:tiK tt T=some (.slice e))(hs:aP tt e=some sz)(hf:All (flagsI s w (opl (.slice T x none hi none)) []))(hd:Nat.blt t s.n=true)(ht:zG d l r=true)(b:s.st id=some (.arr T2 rows)\/s.st id=some (.full T2 rows))(h0:0<rows.length)(a:bnd s hi len j)(hj:j<=rows.length)(k:Ev P l d r (s.put (some t) w (.pv (.vec id sz 0 j))) K):Ev P l d (⟨some t, .slice T x none hi none,ty,pos,after,gd⟩::r) s K:=
 tE hw (λ_=>aF3 pk.htt rfl hx hk hs b h0 a hj) (λz hz=>aO (λ_ _ _ e=>by grind) hz) (flagsI.g hf).1 hd ht k
theorem apZ(pk:Pk P tt){T T2:TypeId}{i m:Nat}(B:Nat)(hx:opd s x=some (.vec id sz 0 i))(hy:opd s y=some (.val (.int kq (m:Nat))))(hk:tiK tt T=some (.slice e))(g:P.underlying T2=some (.int kn))(hs:aP tt e=some sz)(hz:(tiZ tt e).map List.length=some sz)(hf:bS s [x,y]=true)(hd:Nat.blt t s.n=true)(j:s.st id=some (.full e rows))(h0:0<rows.length)(hi:i<=rows.length)(f:rows.length<i+m)(o:P.bytesOf e=B)(hb:(i+m)*B<=140737488355328)(c:i+m<2^62)(b:0<sz)(ht:jU d l r=true)(k:∀a,s.st a=none->Ev P l d r ((s.sst (upd s.st a (some (.arr e (rows.take i++aX m sz))))).pv t (.vec a sz 0 (i+m))) K):Ev P l d (⟨some t, .call ⟨.builtin .append, #[x,y], #[T,T2]⟩,ty,pos,after,none⟩::r) s K:=by
 refine eM (axL pk.htt B hx hy hk g hs hz j h0 hi f o hb c b) (λz hz=>aO (λ_ _ _ e=>by grind) hz) hf hd ht λz hz=>?_
 obtain⟨a,h,rfl⟩:=hz
 exact k _ h
theorem aGF(pk:Pk P tt){T:TypeId}{f:List Value}(hx:opd s x=some (.vec id sz off len))(hk:tiK tt T=some (.slice e))(hs:aP tt e=some sz)(hz:tiZ tt e=some f)(c:f.length=sz)(g:f.all (·.oneCell')=true)(hf:bS s [x]=true)(hd:iA ⟨dst, .call ⟨.builtin .clear, #[x], #[T]⟩,ty,pos,after,none⟩ s=true)(b:s.st id=some (.arr e rows))(h0:0<rows.length)(hl:0<len)(a:off+len<=rows.length)(ht:jU d l r=true)(k:Ev P l d r ((s.sst (upd s.st id (some (.arr e (aU rows off (aX len sz)))))).put dst true (.pv .und)) K):Ev P l d (⟨dst, .call ⟨.builtin .clear, #[x], #[T]⟩,ty,pos,after,none⟩::r) s K:=by
 refine eM (aEr pk.htt hx hk hs hz c g b h0 hl a) (λz hz=>aO (λ_ _ _ e=>by grind) hz) hf hd ht λz hz=>?_
 grind
theorem ovA(pk : Pk P tt){a : FuncId}{fn : Func}{tR T2:TypeId}{w : Bool}{c : PV}(hw : bG l ⟨some t, .call ⟨.value f, #[x,y],D⟩,ty,pos,after,gd⟩ s = some w)(hf : opd s f = some (.fn a []))(i : P.funcs[a]? = some fn)(hn :(fn.name == "runtime.NumGoroutine") = false)(hb : fn.body.isNone = true)(j : Extern.findNext fn = none)(v : Extern.find fn = some (Extern.SlicesOverlaps.overlaps #[tS,tS] #[tR]))(hk:tiK tt tS=some (.slice e))(hs:aP tt e=some sz)(hx:opd s x=some (.seq u))(m:u=(c::cs)::b)(hy:opd s y=some (.vec id sz off len))(o:s.st id=some (.arr T2 rows)\/s.st id=some (.full T2 rows))(h0:0<rows.length)(hT:P.cellsOf T2=sz)(p:0<sz)(h:All (flagsI s w (opl (.call ⟨.value f, #[x,y],D⟩)) []))(hd:Nat.blt t s.n=true)(ht:zG d l r=true)(k:Ev P l d r (s.put (some t) w (.pv (.val (.bool false)))) K):Ev P l d (⟨some t, .call ⟨.value f, #[x,y],D⟩,ty,pos,after,gd⟩::r) s K:=
  tE hw (λ_=>aIr pk.htt rfl hf i hn hb j v hk hs hx m hy o h0 hT p) (λz hz=>aO (λ_ _ _ e=>by grind) hz) (flagsI.g h).1 hd ht k
end
theorem zQ{i m:Nat}(hm:new.length=m)(hi:i<=rows.length):aU (aU (rows++aX m sz) (i+m) (rows.drop i)) i new=rows.take i++new++rows.drop i:=by
 have hj:(aX m sz).length=m:=by unfold aX;rw[List.length_replicate]
 have a:aU (rows++aX m sz) (i+m) (rows.drop i)=(rows++aX m sz).take (i+m)++rows.drop i:=by
  unfold aU;rw[List.drop_of_length_le (l:=rows++aX m sz) (by rw[zla,hj,zld];omega),List.append_nil]
 have hl:((rows++aX m sz).take (i+m)).length=i+m:=by rw[zlt,zla,hj];omega
 rw[a];unfold aU;rw[List.take_append_of_le_length (by omega),List.take_take,Nat.min_eq_left (by omega),List.take_append_of_le_length hi,List.drop_append,hl,hm];rw[List.drop_of_length_le (by omega),Nat.sub_self,List.drop_zero,List.nil_append]
theorem yT{i m:Nat}(hm:new.length=m)(hi:i<=rows.length):aU (aU (rows.take i++aX (rows.length+m-i) sz) i new) (i+m) (rows.drop i)=rows.take i++new++rows.drop i:=by
 have hj:(aX (rows.length+m-i) sz).length=rows.length+m-i:=by unfold aX;rw[List.length_replicate]
 have ht:(rows.take i).length=i:=by rw[zlt];omega
 have a:(aU (rows.take i++aX (rows.length+m-i) sz) i new).take (i+m)=rows.take i++new:=by
  unfold aU;have b:(rows.take i++aX (rows.length+m-i) sz).take i=rows.take i:=List.take_left' ht;rw[b];exact List.take_left' (by rw[zla,ht,hm])
 have hl:(aU (rows.take i++aX (rows.length+m-i) sz) i new).length=rows.length+m:=by
  rw[dX (by rw[zla,ht,hj];omega),zla,ht,hj];omega
 generalize aU (rows.take i++aX (rows.length+m-i) sz) i new=Z at a hl;unfold aU;rw[a,List.drop_of_length_le (l:=Z) (by rw[zld];omega),List.append_nil]
end
section
section
variable{P:Program}{tt:TT}
theorem aB6{x:Value}(hx:Rep g (.vec id sz off len) x):∃a cap,x= .slice a len cap/\len<=cap/\(0<off+len->∃b n c,g.io id=some (b,n,c)/\off+len<=n/\n<=c/\n<2^62/\c≠0/\a=some ⟨b,off*sz,none⟩/\cap=c-off):=by
 have⟨b,n,c,f,i,j,k,e⟩:=hx;rcases e with⟨h,a,e⟩|⟨h,e⟩
 ·simp_all
 ·exact⟨_,_,e,by omega,λ_=>⟨b,n,c,f,i,j,k,h,rfl,rfl⟩⟩
theorem aCR(htt:bI P tt){T e i j:Nat}{hi:Option Operand}(ho:o.op= .slice T x lo hi none)(hx:opd s x=some (.vec id sz off len))(hk:tiK tt T=some (.slice e))(hs:aP tt e=some sz)(m:bnd s lo 0 i)(k:bnd s hi len j)(p:i<j\/i=0/\off=0/\0<len)(hj:j<=len):
  OpV P o s (.vec id sz (off+i) (j-i)):=by
 refine aN λw g ρ hm hρ=>?_
 have q:=hρ x (by rw[ho];simp[Op.operands]) _ hx
 have hb:∀y,lo=some y\/hi=some y->kC g s y (ρ y):=λy hy=>hρ y (by rw[ho];rcases hy with rfl|rfl<;>simp[Op.operands])
 have⟨a,cap,ex,hc,f⟩:=aB6 q
 obtain⟨b,n,c,t1,t2,u,v,z,rfl,rfl⟩:=f (by omega)
 have hu:=cD (aR htt hk).1
 have h:=kU (P:=P) (w:=w) (sl:=true) (len:=len) (cap:=c-off) m k hb (by omega) (by omega)
 refine⟨.slice (if c-off=i then some ⟨b,off*sz,none⟩else(some (⟨b,off*sz,none⟩:Addr)).map (·.add (i*sz))) (j-i) (c-off-i),?_,?_⟩
 ·simp only[execOp,ho,Instr.sliceAt,Instr.slice,ex,Sem.run_bind,Sem.run_pure,Result.andThen_ok,run_underlying hu,aZ (aQ htt hs).1,Option.map_none,h]
 ·rw[zn (by omega)]
  unfold Rep;exact⟨b,n,c,t1,by omega,u,v, .inr ⟨z,by simp[dA,Nat.add_mul,Nat.sub_sub]⟩⟩
theorem aC8(htt:bI P tt){T e i j:Nat}{hi:Option Operand}(ho:o.op= .slice T x lo hi none)(hx:opd s x=some (.vec id sz off len))(hk:tiK tt T=some (.slice e))(hs:aP tt e=some sz)(m:bnd s lo 0 i)(f:bnd s hi len j)(k:i<=j)(hj:j<=len):
  OpV P o s .und/\(i=j->OpV P o s (.seq [])):=by
 have key:∀w g ρ,(∀x∈o.op.operands,kC g s x (ρ x))->∃a c,(execOp ρ o).run P w= .ok (.value (.slice a (j-i) c)) w:=λw g ρ hρ=>by
  have p:=hρ x (by rw[ho];simp[Op.operands]) _ hx
  have hb:∀y,lo=some y\/hi=some y->kC g s y (ρ y):=λy hy=>hρ y (by rw[ho];rcases hy with rfl|rfl<;>simp[Op.operands])
  have⟨a,cap,ex,hc,_⟩:=aB6 p
  have hu:=cD (aR htt hk).1
  have b:=kU (P:=P) (w:=w) (sl:=true) (cap:=cap) m f hb k (by omega)
  exact⟨if cap=i then a else a.map (·.add (i*sz)),cap-i,by simp only[execOp,ho,Instr.sliceAt,Instr.slice,ex,Sem.run_bind,Sem.run_pure,Result.andThen_ok,run_underlying hu,aZ (aQ htt hs).1,Option.map_none,b]⟩
 refine⟨aN λw g ρ hm hρ=>?_,λh=>aN λw g ρ hm hρ=>?_⟩
 ·have⟨a,c,h⟩:=key w g ρ hρ
  exact⟨_,h,by unfold Rep;trivial⟩
 ·have⟨a,c,n⟩:=key w g ρ hρ
  subst h;refine⟨_,n,?_⟩;unfold Rep;simp
end
section
variable{P:Program}{tt:TT}{l:List Oper}{d:Md}{r:List Oper}{s:St}{K:St->Prop}{t:Nat}{op:Op}{ty:TypeId}{pos:String}{after:Array Edge}{gd:Option (Nat×Bool)}
theorem aLm(pk:Pk P tt)(i j:Nat){T e:Nat}{hi:Option Operand}{w:Bool}(hw:bG l ⟨some t, .slice T x lo hi none,ty,pos,after,gd⟩ s=some w)(hx:opd s x=some (.vec id sz off len))(hk:tiK tt T=some (.slice e))(hs:aP tt e=some sz)(hf:All (flagsI s w (opl (.slice T x lo hi none)) []))(hd:Nat.blt t s.n=true)(f:w=true->bnd s lo 0 i)(b:w=true->bnd s hi len j)(c:w=true->(i<j\/i=0/\off=0/\0<len))(hj:w=true->j<=len)(ht:cX d l r=true)(k:Ev P l d r (s.put (some t) w (.pv (.vec id sz (off+i) (j-i)))) K):Ev P l d (⟨some t, .slice T x lo hi none,ty,pos,after,gd⟩::r) s K:=
 dC hw (λa st'=>aCR pk.htt rfl ((cA x).trans hx) hk hs (oN (f a)) (oN (b a)) (c a) (hj a)) (λz hz=>aO (λ_ _ _ e=>by grind) hz) (flagsI.g hf).1 hd ht k
theorem aCq(pk:Pk P tt)(i j:Nat){T e:Nat}{hi:Option Operand}{w:Bool}(hw:bG l ⟨some t, .slice T x lo hi none,ty,pos,after,gd⟩ s=some w)(hx:opd s x=some (.vec id sz off len))(hk:tiK tt T=some (.slice e))(hs:aP tt e=some sz)(hf:All (flagsI s w (opl (.slice T x lo hi none)) []))(hd:Nat.blt t s.n=true)(f:w=true->bnd s lo 0 i)(b:w=true->bnd s hi len j)(c:w=true->i<=j)(hj:w=true->j<=len)(ht:cX d l r=true)(k:Ev P l d r (s.put (some t) w (.pv .und)) K):Ev P l d (⟨some t, .slice T x lo hi none,ty,pos,after,gd⟩::r) s K:=
 dC hw (λa st'=>(aC8 pk.htt rfl ((cA x).trans hx) hk hs (oN (f a)) (oN (b a)) (c a) (hj a)).1) (λz hz=>aO (λ_ _ _ e=>by grind) hz) (flagsI.g hf).1 hd ht k
theorem aHk(pk:Pk P tt)(j:Nat){T e:Nat}{hi:Option Operand}{w:Bool}(hw:bG l ⟨some t, .slice T x none hi none,ty,pos,after,gd⟩ s=some w)(hx:opd s x=some (.vec id sz 0 len))(hk:tiK tt T=some (.slice e))(hs:aP tt e=some sz)(hf:All (flagsI s w (opl (.slice T x none hi none)) []))(hd:Nat.blt t s.n=true)(a:w=true->bnd s hi len j)(h0:w=true->0<len)(hj:w=true->j<=len)(ht:cX d l r=true)(k:Ev P l d r (s.put (some t) w (.pv (.vec id sz 0 j))) K):Ev P l d (⟨some t, .slice T x none hi none,ty,pos,after,gd⟩::r) s K:=
 aLm pk 0 j hw hx hk hs hf hd (λ_=>rfl) a (λh=> .inr ⟨rfl,rfl,h0 h⟩) hj ht k
theorem mL(pk:Pk P tt)(i c:Nat){T e:Nat}{hi:Option Operand}{w:Bool}(hw:bG l ⟨some t, .slice T x lo hi none,ty,pos,after,gd⟩ s=some w)(hx:opd s x=some (.vec id sz 0 len))(hk:tiK tt T=some (.slice e))(hs:aP tt e=some sz)(hf:All (flagsI s w (opl (.slice T x lo hi none)) []))(hd:Nat.blt t s.n=true)(f:w=true->∃j,bnd s lo 0 j/\j=i)(a:w=true->∃j,bnd s hi len j/\j=i+c)(b:w=true->0<c)(hj:w=true->i+c<=len)(ht:cX d l r=true)(k:Ev P l d r (s.put (some t) w (.pv (.vec id sz i c))) K):Ev P l d (⟨some t, .slice T x lo hi none,ty,pos,after,gd⟩::r) s K:=
 aLm pk i _ hw hx hk hs hf hd (λh=>by grind) (λh=>by grind) (λh=> .inl (by grind)) hj ht (by grind)
end
theorem oR{n i k m:Nat}{T:TypeId}{X:List (List PV)}(hx:opd s x=some (.vec id sz i m))(a:s.st id=some (.arr T (X++aX k sz))\/s.st id=some (.full T (X++aX k sz)))(c:X.length=n)(h0:0<n)(hT:P.cellsOf T=sz)(b:∀r∈X,r.all PV.one=true)(hi:i<=n)(hm:n-i<=m):awR P s tx x sz m (n-i) (X.drop i):=by
 have:=aKh (tx:=tx) hx a (by grind) hT hm (by grind)
 grind
theorem qX{c:Nat}{f g:Option AObj}{a b:AObj}(h:b=a):StSub (upd (upd st id none) c (some a)) (upd (upd (upd (upd st id none) c f) c g) c (some b)):=λj=>by
 subst h
 right
 by_cases e:j=c
 ·subst e;rw[aA,aA]
 ·simp only[aB e]
theorem qY{c id2:Nat}{k n:Option AObj}{a b:AObj}(h:b=a)(i:st c=none):StSub (upd (upd st id none) id2 (some a)) (upd (upd (upd (upd (upd st id none) c k) id2 m) id2 n) id2 (some b)):=λj=>by
 subst h
 by_cases e:j=id2
 ·subst e;right;rw[aA,aA]
 ·simp only[aB e]
  by_cases f:j=c
  ·subst f
   left;by_cases g:j=id
   ·subst g;rw[aA]
   ·rw[aB g];exact i
  ·right;rw[aB f]
theorem lX{id2:Nat}(h:st id2=none):upd st id none id2=none:=by
 by_cases e:id2=id
 ·subst e;rw[aA]
 ·rwa[aB e]
theorem oS{a id2:Nat}{o:AObj}(h:upd (upd st id none) a (some o) id2=none):upd st id none id2=none:=by
 by_cases e:id2=a
 ·subst e;rw[aA]at h;cases h
 ·rwa[aB e]at h
def LV(T sz:Nat)(st:aD)(rows:List (List PV))(p:PV)(S:aD):Prop:=∃id,p= .vec id sz 0 rows.length/\st id=none/\S=upd st id (some (.arr T rows))
theorem ahK{f:FuncId}{T:Nat}(h:PC P f args st (LR T sz st rows)):PC P f args st (LV T sz st rows):=
 have hk:=aNt h
 ⟨hk.1,λw g vs hm hv=>(hk.2 w g _ hm hv).mono λe w' ⟨v,r,st',g',j,o,k,h4,h5,c,m⟩=>by
  rcases o with⟨id,k1,k2,i⟩|⟨k1,k2,i⟩
  ·exact⟨v,r,st',g',j,⟨id,k1,i,k2⟩,k,h4,h5,c,m⟩
  ·subst k1;subst k2;subst i
   have⟨id,n,m1,p,u,x,y,z,A⟩:=qE h4 T;obtain⟨a,rfl⟩:=k;exact⟨_, .vec _ _ 0 0,_,n,j,⟨id,rfl,p,rfl⟩,u sz a,x,h5.trans y,c.trans z (λb hb B=>by grind),λb hb=>by
    rcases A b hb with q|q
    ·exact m b q
    ·exact .inr (Nat.le_trans c.size q)⟩⟩
theorem PC.freeze2{f:FuncId}{n:Nat}{T:TypeId}{a:PV}{i:List PV}(y:st id=some (.arr T rows))(hT:P.cellsOf T=sz)(hn:rows.length=n)(h:PC P f (a:: .seq rows::i) (upd st id none) R):PC P f (a:: .vec id sz 0 n::i) st R:=by
 refine⟨h.1,λw g vs hm x=>?_⟩;have⟨A,m1,o,C,H,I,J⟩:=kO hm y hT;obtain⟨u,_,rfl,hu,v,z,rfl,hv,x⟩:=x;have m:=C 0 n v (Rep.mono o _ _ hv);rw[List.drop_zero,<-hn,List.take_length]at m;have c:∀b,Blocks (upd st id _) A b->Blocks st g b:=λb ⟨j,B,G⟩=>⟨j,(dP B).2,by grind⟩;refine(h.2 w _ _ m1 (by exact⟨u,_,rfl,Rep.mono o _ _ hu,v,z,rfl,m,RepL.mono o _ _ x⟩)).mono ?_;rintro e w' ⟨v2,r,st',g',he,hR,hrep,hmem,hle,hfr,hb⟩;refine⟨v2,r,st',g',he,hR,hrep,hmem,o.trans hle,⟨hfr.os,hfr.tape,hfr.output,hfr.size,λb k p=>?_⟩,λb k=>(hb b k).imp (c b) λh=>h⟩;have⟨D,E,F⟩:=hfr.old b k λq=>p (c b q)
 grind
end
section
section
variable{P:Program}{tt:TT}{l:List Oper}{d:Md}{r:List Oper}{s:St}{K:St->Prop}{t:Nat}{op:Op}{ty:TypeId}{pos:String}{after:Array Edge}{gd:Option (Nat×Bool)}
theorem RepA.part{g:G}{b:Nat}:∀{cs:List PV}{off:Nat}(i:Nat){p:PV},RepA g b off cs->cs[i]?=some p->RepA g b (off+i) [p]
 |[],_,_,_,_,e=>by grind
 |c::cs,off,0,p,h,e=>by
  simp at e;subst e
  exact⟨h.1,trivial⟩
 |c::cs,off,i+1,p,h,e=>by
  have:=RepA.part i h.2 e
  grind
theorem aDP(htt:bI P tt){T:TypeId}{j m:Nat}(ho:o.op= .indexAddr T x y)(hx:opd s x=some (.rp cs))(hy:opd s y=some (.val (.int k n)))(hj:n=(j:Int))(hk:tiK tt T=some (.arr m e))(hs:aP tt e=some 1)(f:j<m)(h:cs[j]?=some p):OpV P o s (.rp [p]):=by
 refine aN λw g ρ _ hρ=>?_
 have i:=hρ x (by rw[ho];simp[Op.operands]) _ hx
 have c:=aL (hρ y (by rw[ho];simp[Op.operands]) _ hy)
 have⟨b,off,ex,h4⟩:=i
 have hu:=jN (aR htt hk).1
 refine⟨.pointer (some ⟨b,off+j*1,none⟩),?_,by rw[Nat.mul_one];exact⟨b,off+j,rfl,h4.part j h⟩⟩
 subst hj
 have a:(0:Int)<=(j:Int)/\(j:Int)<(m:Int):=by omega
 simp only[execOp,ho,Instr.indexAt,c,ex,asIntOf,Sem.run_bind,Sem.run_pure,Result.andThen_ok,run_underlying hu,Instr.sureAddr]
 rw[zp a]
 simp only[Sem.run_bind,aZ (aQ htt hs).1,Result.andThen_ok,Sem.run_pure,zin,dA]
theorem axM(pk:Pk P tt){T:TypeId}{f:IntKind}{j m:Nat}{w:Bool}(hw:bG l ⟨some t, .indexAddr T x y,ty,pos,after,gd⟩ s=some w)(hx:opd s x=some (.rp cs))(hy:opd s y=some (.val (.int f n)))(hk:tiK tt T=some (.arr m e))(hs:aP tt e=some 1)(hf:All (flagsI s w [x,y] []))(hd:Nat.blt t s.n=true)(hj:w=true->n=(j:Int))(b:w=true->j<m)(c:w=true->cs[j]?=some p)(ht:cX d l r=true)(k:Ev P l d r (s.put (some t) w (.pv (.rp [p]))) K):Ev P l d (⟨some t, .indexAddr T x y,ty,pos,after,gd⟩::r) s K:=
 dC hw (λa st'=>aDP pk.htt rfl ((cA x).trans hx) ((cA y).trans hy) (hj a) hk hs (b a) (c a)) (λz hz=>aO (λ_ _ _ e=>by grind) hz) (flagsI.g hf).1 hd ht k
theorem sxG(pk:Pk P tt){T:TypeId}{b:ByteArray}{f:IntKind}{w:Bool}(j:Nat)(c:UInt8)(hw:bG l ⟨some t, .index T x y,ty,pos,after,gd⟩ s=some w)(hx:opd s x=some (.val (.string b)))(hy:opd s y=some (.val (.int f i)))(hT:tiK tt T=some .str)(hf:All (flagsI s w [x,y] []))(hd:Nat.blt t s.n=true)(hi:w=true->i=j)(hb:w=true->b[j]?=some c)(ht:cX d l r=true)(k:Ev P l d r (s.put (some t) w (.pv (.val (.int .u8 c.toNat)))) K):Ev P l d (⟨some t, .index T x y,ty,pos,after,gd⟩::r) s K:=
 dC hw (λa st'=>auS pk.htt rfl ((cA x).trans hx) ((cA y).trans hy) hT (hi a) (hb a)) (λz hz=>aO (λ_ _ _ e=>by grind) hz) (flagsI.g hf).1 hd ht k
theorem aGh{i j m n:Operand}{b e f:Int}(ho:o.op= .call ⟨.builtin .max, #[h,i,j,m,n],D⟩)(A:opd s h=some (.val (.int k a)))(B:opd s i=some (.val (.int k b)))(C:opd s j=some (.val (.int k c)))(h4:opd s m=some (.val (.int k e)))(h5:opd s n=some (.val (.int k f))):OpV P o s (.val (.int k (max (max (max (max a b) c) e) f))):=by
 refine aN λw g ρ hm hρ=>?_;have p:=aL (hρ h (by rw[ho];simp[Op.operands,Call.operands]) _ A);have q:=aL (hρ i (by rw[ho];simp[Op.operands,Call.operands]) _ B);have u:=aL (hρ j (by rw[ho];simp[Op.operands,Call.operands]) _ C);have v:=aL (hρ m (by rw[ho];simp[Op.operands,Call.operands]) _ h4);have z:=aL (hρ n (by rw[ho];simp[Op.operands,Call.operands]) _ h5);refine⟨.int k (max (max (max (max a b) c) e) f),cE ho ?_,by simp[Rep]⟩;simp only[List.map_toArray,zmp,builtin,Builtin.max_,p,q,u,v,z];have hm:∀x y:Int,(if y>x then y else x)=max x y:=λx y=>by omega
 simp[Builtin.max2,hm]
theorem aOE{a b c:Operand}{m o p q u:Int}{w:Bool}(hw:bG l ⟨some t, .call ⟨.builtin .max, #[a,b,c,f,h],j⟩,ty,pos,after,gd⟩ s=some w)(v:opd s a=some (.val (.int k m)))(x:opd s b=some (.val (.int k o)))(y:opd s c=some (.val (.int k p)))(h4:opd s f=some (.val (.int k q)))(h5:opd s h=some (.val (.int k u)))(i:All (flagsI s w (opl (.call ⟨.builtin .max, #[a,b,c,f,h],j⟩)) []))(hd:Nat.blt t s.n=true)(ht:cX d l r=true)(A:Ev P l d r (s.put (some t) w (.pv (.val (.int k (max (max (max (max m o) p) q) u))))) K):Ev P l d (⟨some t, .call ⟨.builtin .max, #[a,b,c,f,h],j⟩,ty,pos,after,gd⟩::r) s K:=
 dC hw (λ_ st'=>aGh rfl ((cA _).trans v) ((cA _).trans x) ((cA _).trans y) ((cA _).trans h4) ((cA _).trans h5)) (λz hz=>aO (λ_ _ _ e=>by grind) hz) (flagsI.g i).1 hd ht A
theorem axZ{n : Array TypeId}{a : FuncId}{fn : Func}{b : ByteArray}(ho : o.op = .call ⟨.value f, #[x,y],n⟩)(hf : opd s f = some (.fn a []))(h : P.funcs[a]? = some fn)(hn :(fn.name == "runtime.NumGoroutine") = false)(hb : fn.body.isNone = true)(i : Extern.findNext fn = none)(m : Extern.find fn = some Extern.BytealgIndexByte.indexByte)(hx:opd s x=some (.val (.string b)))(hy:opd s y=some (.val (.int .u8 c))):OpV P o s (.val (.int .i64 (firstIdx b c.toNat.toUInt8))):=by
  refine aN λw g ρ hm hρ=>?_
  have j:=hρ f (by rw[ho];simp[Op.operands,Call.operands]) _ hf
  have ex:=aL (hρ x (by rw[ho];simp[Op.operands,Call.operands]) _ hx)
  have k:=aL (hρ y (by rw[ho];simp[Op.operands,Call.operands]) _ hy)
  have⟨p,ef,j⟩:=j
  subst j
  refine⟨.int .i64 (firstIdx b c.toNat.toUInt8),?_,by simp[Rep]⟩
  have e:=run_callFunc_extern (P:=P) h hn hb i m #[ρ x,ρ y] w
  rw[ex,k,run_indexByte_string]at e
  simp only[execOp,ho,resolve,ef,Deferred.ofValue,Sem.run_bind,Sem.run_pure,Result.andThen_ok,invoke,List.map_toArray,zmp,List.map_nil]
  simpa[ex,k]using e
theorem aMJ(pk : Pk P tt){m : Array TypeId}{a : FuncId}{fn : Func}{b : ByteArray}{w : Bool}(hw : bG l ⟨some t, .call ⟨.value f, #[x,y],m⟩,ty,pos,after,gd⟩ s = some w)(hf : opd s f = some (.fn a []))(i : P.funcs[a]? = some fn)(hn :(fn.name == "runtime.NumGoroutine") = false)(hb : fn.body.isNone = true)(j : Extern.findNext fn = none)(o : Extern.find fn = some Extern.BytealgIndexByte.indexByte)(hx:opd s x=some (.val (.string b)))(hy:opd s y=some (.val (.int .u8 c)))(h:All (flagsI s w (opl (.call ⟨.value f, #[x,y],m⟩)) []))(hd:Nat.blt t s.n=true)(ht:cX d l r=true)(k:Ev P l d r (s.put (some t) w (.pv (.val (.int .i64 (firstIdx b c.toNat.toUInt8))))) K):Ev P l d (⟨some t, .call ⟨.value f, #[x,y],m⟩,ty,pos,after,gd⟩::r) s K:=
  dC hw (λ_ st'=>axZ rfl ((cA _).trans hf) i hn hb j o ((cA x).trans hx) ((cA y).trans hy)) (λz hz=>aO (λ_ _ _ e=>by grind) hz) (flagsI.g h).1 hd ht k
end
theorem iP{b:Go.Frame}{a:Act}{k:List Item}{cs:List Go.Frame}{c:Code}:step P (lone (b.atR a (.code (.scope c)::k)) cs w)= .next (lone (b.atR a (.code c:: .inScope c::k)) cs w):=
 step_lone_go rfl
theorem akE{b:Go.Frame}{a:Act}{k:List Item}{cs:List Go.Frame}{c:Code}:step P (lone (b.atR a (.inScope c::k)) cs w)= .next (lone (b.atR a k) cs w):=
 step_lone_go rfl
theorem ayR{F:Fence}{n:Nat}{P:Program}{Q:Exit->Act->World->Prop}{a:Act}{w:World}{c:Code}(v:∀l a w,Q (.goto l) a w->False)(h:c.wpIn F n P Q a w):(Code.scope c).wpIn F n P Q a w:=by
 intro b k cs o hb j;have h0:(lone (b.atR a (.code (.scope c)::k)) _ w).fenced P F:=fenced_calm hb j rfl;obtain⟨e,g,i,hq,f⟩:=h b _ _ o hb j;cases e with
 |normal=>exact⟨.normal,g,i,hq,(StepsIn.head h0 iP f).trans (.one (fenced_calm hb j rfl) akE)⟩
 |exit id=>exact⟨.exit _,g,i,hq,λk' hk=> .head h0 iP (f.1 _ ‹_›),λm hk=>let⟨u,p,q⟩:=f.2 m ‹_›;⟨u,p, .head h0 iP q⟩⟩
 |goto l=>grind
 |ret=>exact⟨_,g,i,hq, .of_steps (.one h0 iP) f⟩
 |panic ch=>exact⟨_,g,i,hq, .of_steps (.one h0 iP) f⟩
 |outgrown=>exact⟨_,g,i,hq, .of_steps (.one h0 iP) f⟩
theorem aDn{c:Code}(b:∀l s,Q (.goto l) s->False)(h:PWp P c Q s):PWp P (.scope c) Q s:=λe a w g lam hs=>
 ayR (λ_ _ _ ⟨_,_,_,q,_⟩=>b _ _ q) (h _ a w g _ hs)
theorem aEn{l:Nat}(h:Q .normal s):PWp P (.label l) Q s:=λ_ _ _ g lam hs=>wpIn_label ⟨s,g,lam,h,hs⟩
theorem aL9{P:Program}{f:FuncId}(hc:jB P f=true){x y v:Value}(h:∀w,Calls P f #[x,y] w λe w'=>e= .returned v/\(w'=w\/∃a c q,w'=((w.alloc a).alloc c).drewN q)):PF P f [.val x, .val y] (.val v):=by
 refineλst=>⟨hc,λw g vs hm m=>?_⟩;obtain⟨_,_,rfl,rfl,_,_,rfl,rfl,rfl⟩:=m;refine(h w).mono ?_;rintro e w' ⟨rfl,rfl|⟨a,c,q,rfl⟩⟩
 ·exact⟨v, .val v,st,g,rfl,⟨rfl,rfl⟩,rfl,hm,Le.refl g,Frame.refl _ _ _,λb hb=> .inl hb⟩
 ·obtain⟨m1,n,i⟩:=lT hm _
  obtain⟨p,o,j⟩:=lT m1 _;obtain⟨u,k⟩:=qI p _ (Nat.le_add_right _ _);refine⟨v, .val v,st,_,rfl,⟨rfl,rfl⟩,rfl,u,n.trans o,((i.trans j λ_ _ h=>h).trans k λ_ _ h=>h).mono λ_ h=>h.elim,λb hb=> .inl ?_⟩
  simpa
end
section
theorem SI.wkVar{c:Ctx}{a:Act}{lam:Nat->Nat}(hs:SI P c s a w g lam)(u:Nat){T:TypeId}{f:List PV}(hL:s.L u=some (T,cs))(j:∀vs,RepL g cs vs->RepL g f vs):SI P c (s.setv u T f) a w g lam where
 mem:=hs.mem
 le:=hs.le
 frame:=hs.frame
 blk:=hs.blk
 env:=hs.env
 box t T' cs'' e:=by
  have b:upd s.L u (some (T,f)) t=some (T',cs''):=e;by_cases ht:t=u
  ·subst ht
   rw[aA]at b;injection b with b
   injection b with h i
   subst h;subst i;have⟨vs,k,m,o⟩:=hs.box t T cs hL;exact⟨vs,k,j _ m,o⟩
  ·rw[aB ht]at b
   exact hs.box t T' cs'' b
 inj t t' e b hl:=by
  have h:upd s.L u _ t≠none:=e;have i:upd s.L u _ t'≠none:=b;refine hs.inj t t' ?_ ?_ hl
  ·by_cases ht:t=u
   ·rw[ht,hL];simp
   ·rwa[aB ht]at h
  ·by_cases ht:t'=u
   ·rw[ht,hL];simp
   ·rwa[aB ht]at i
 ad:=hs.ad
 adL t e:=by
  have h:upd s.L u _ t≠none:=e;by_cases ht:t=u
  ·exact hs.adL t (by rw[ht,hL];simp)
  ·exact hs.adL t (by rwa[aB ht]at h)
 defers:=hs.defers
 n:=hs.n
 top:=hs.top
theorem afH{g:G}:∀(pre:List PV){a:List PV}{q q':PV}(_:∀v,Rep g q v->Rep g q' v)(vs:List Value),RepL g (pre++q::a) vs->RepL g (pre++q'::a) vs
 |[],_,_,_,h,vs,e=>by
  simp only[List.nil_append,RepL]at e⊢
  grind
 |p::pre,_,_,_,h,vs,e=>by
  have⟨v,b,c,f,i⟩:=e
  exact⟨v,b,c,f,afH _ h _ i⟩
theorem jS{h:Code}(u:Nat)(T sz:Nat){T':TypeId}(pre:List PV){e:List PV}(hL:s.L u=some (T',cs))(hc:cs=pre++q::e)(hq:isEmp q=true)(k:∀id,s.st id=none->PWp P h Q ((s.sst (upd s.st id (some (.arr T [])))).setv u T' (pre++ .vec id sz 0 0::e))):PWp P h Q s:=by
 intro c a w g lam hs;have⟨j,g',p,i,x,m1,m,n,o⟩:=qE hs.mem T;have f:=hs.step m1 m n o;subst hc;exact k _ i c a w _ _ (f.wkVar u hL (afH _ λv hv=>by
  obtain⟨b,rfl⟩:=qO hq hv
  grind))
theorem PC.freezeN{f:FuncId}{n:Nat}{T:TypeId}(as:List PV){a:List PV}(p:st id=some (.arr T rows))(hT:P.cellsOf T=sz)(hn:rows.length=n)(h:PC P f (as++ .seq rows::a) (upd st id none) R):PC P f (as++ .vec id sz 0 n::a) st R:=by
 refine⟨h.1,λw g vs hm x=>?_⟩;have⟨k,m1,u,z,E,F,G⟩:=kO hm p hT;have o:RepL k (as++ .seq rows::a) _:=afH _ (λv hv=>by
  have:=z 0 n v hv
  grind) vs (RepL.mono u _ _ x)
 have c:∀b,Blocks (upd _ id _) k b->Blocks st g b:=λb ⟨j,y,D⟩=>⟨j,(dP y).2,by grind⟩;refine(h.2 w k vs m1 o).mono ?_;rintro e w' ⟨v2,r,st',g',he,hR,hrep,hmem,hle,hfr,hb⟩;refine⟨v2,r,st',g',he,hR,hrep,hmem,u.trans hle,⟨hfr.os,hfr.tape,hfr.output,hfr.size,λb i m=>?_⟩,λb i=>(hb b i).imp (c b) λh=>h⟩;have⟨A,B,C⟩:=hfr.old b i λq=>m (c b q)
 grind
theorem oB{a id2:Nat}{i b c:Option AObj}(k:st id=none)(f:upd st id i a=none)(hb:b=c):StSub (upd st id2 b) (upd (upd (upd (upd (upd st id i) id none) a m) a none) id2 c):=λj=>by
 subst hb
 by_cases e:j=id2
 ·subst e;right;rw[aA,aA]
 ·rw[aB e,aB e]
  by_cases h:j=a
  ·subst h
   left;by_cases g:j=id
   ·grind
   ·rwa[aB g]at f
  ·rw[aB h,aB h]
   by_cases g:j=id
   ·grind
   ·right;rw[aB g,aB g]
end
end Go.Abs
