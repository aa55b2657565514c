import Derived.Test.YtigmnfepdlbcpaaGreatDoorAbsF
import Derived.Test.YtigmnfepdlbcpaaGreatDoorAbsG
import Derived.Shelf.Sort.Plain
import Derived.Shelf.SlSortCmp.NoneTotal
import Derived.Shelf.Slices.In.SortNone
set_option linter.all false
namespace Go.Abs
open Go Go.Sort Go.Shelf Go.Proofs
variable{st:aD}{w:World}{α:Type}{b id k n:Nat}{e:TypeId}
section
variable{P:Program}
theorem aFe{g:G}(hm:MemOK P st w g)(os:Array Obj):MemOK P st (grow w os) {g with heap:=(grow w os).heap}/\Le g {g with heap:=(grow w os).heap}/\Frame (λ_=>False) w g (grow w os) {g with heap:=(grow w os).heap}:=by
 have old:∀b,b<w.heap.size->(grow w os).heap[b]?=w.heap[b]?:=λb hb=>by
  show(w.heap++os)[b]?=_
  rw[Array.getElem?_append_left hb]
 have j:w.heap.size<=(grow w os).heap.size:=by show _<=(w.heap++os).size;simp
 have d:Le g {g with heap:=(grow w os).heap}:=by
  refine⟨λ_ _ h=>h,λ_=>znr _,λb i hi=>?_,λb hb=>⟨hb,?_⟩⟩
  ·show bB (grow w os).heap b i=bB g.heap b i
   have hb:=hm.lt b (by omega);rw[hm.heap];simp only[bB,old b hb]
  ·show(grow w os).heap[b]?=g.heap[b]?
   have⟨c,a,e,_⟩:=hm.fmm b hb;rw[hm.heap,old b (bQ e)]
 refine⟨⟨rfl,λid o' e=>?_,hm.inj,λb h=>Nat.lt_of_lt_of_le (hm.lt b h) j,λb h=>?_,hm.fin⟩,d,⟨rfl,⟨rfl,znr _⟩,rfl,j,λb hb _=>⟨old b hb,rfl,Iff.rfl⟩⟩⟩
 ·refine(hm.obj id o' e).keep d λb hb=>⟨?_,rfl,Iff.rfl⟩
  have⟨x,hx,_⟩:=xF (hm.obj id o' e) hb;have f:=bQ hx;rw[hm.heap]at f;show(grow w os).heap[b]?=g.heap[b]?;rw[hm.heap];exact old b f
 ·have⟨c,a,e,hs⟩:=hm.fmm b h
  exact⟨c,a,by rw[old b (bQ e)];exact e,hs⟩
theorem axP[Inhabited α](enc:α->Value)(D:Array α)(vs sp:List Value)(h:D.size=vs.length):putCells enc 0 D (vs++sp).toArray=(D.toList.map enc++sp).toArray:=by
 apply Array.ext_getElem?;intro i;unfold putCells;simp only[Array.getElem?_mapIdx,List.getElem?_toArray,Nat.zero_le,true_and,Nat.zero_add,Nat.sub_zero];by_cases hi:i<D.size
 ·rw[List.getElem?_append_left (by omega),List.getElem?_append_left (by simp;omega),List.getElem?_map]
  simp[hi,h▸hi]
 ·rw[List.getElem?_append_right (by omega),List.getElem?_append_right (by simp;omega)]
  simp only[zql,Array.length_toList,h];cases sp[i-vs.length]? with
  |none=>rfl
  |some x=>simp[h,show¬i<vs.length from by omega]
theorem akS{cur:Array Value}{T:TypeId}{fr:Nat×Nat}(f:Array Value->Array Value)(hb:w.heap[b]?=some (.cells cur T fr)):mapBlock w b f={w with heap:=w.heap.setIfInBounds b (.cells (f cur) T fr)}:=by
 unfold mapBlock
 congr 1
 apply Array.ext_getElem?;intro i;rw[Array.getElem?_modify,Array.getElem?_setIfInBounds];by_cases hi:b=i
 ·subst hi
  have⟨hl,e⟩:=Array.getElem?_eq_some_iff.1 hb;rw[zp rfl,zp rfl,zp hl,hb];rfl
 ·simp[hi]
theorem aCt{st:aD}{w:World}{g:G}(hm:MemOK P st w g){id b cap n:Nat}{T:TypeId}{rows rows':List (List PV)}{vs sp:List Value}{α:Type}[Inhabited α](enc:α->Value)(D:Array α)(q:Nat)(os:Array Obj)(o:st id=some (.arr T rows))(c:g.io id=some (b,n,cap))(hc:cap≠0)(hn:n=rows.length)(m:rows'.length=rows.length)(t:rows.length<=cap)
  (hb:w.heap[b]?=some (.cells (vs++sp).toArray T (0,0))) (d:(vs++sp).length=cap*P.cellsOf T) (hl:∀r∈rows',r.length=P.cellsOf T) (s:D.size=vs.length) (A:RepL g rows'.flatten (D.toList.map enc)) (j:g.fr b=0):
  ∃g',MemOK P (upd st id (some (.arr T rows'))) (grow (putRow enc (Sort.ahead w q) b 0 D) os) g'/\Le g g'/\Frame (Blocks st g) w g (grow (putRow enc (Sort.ahead w q) b 0 D) os) g'/\∀b',Blocks (upd st id (some (.arr T rows'))) g' b'->Blocks st g b'\/w.heap.size<=b':=by
 obtain⟨x,z⟩:=qI hm (w.drawn+q) (Nat.le_add_right _ _)
 have a:(Sort.ahead w q).heap[b]?=some (.cells (vs++sp).toArray T (0,0)):=hb
 have l:=bQ hb
 have e:putRow enc (Sort.ahead w q) b 0 D={Sort.ahead w q with heap:=(Sort.ahead w q).heap.setIfInBounds b (.cells (D.toList.map enc++sp).toArray T (0,0))}:=by
  unfold putRow;rw[akS _ a,axP enc D vs sp s]
 obtain⟨v,F,H,I⟩:=iU (o':= .arr T rows') (y:= .cells (D.toList.map enc++sp).toArray T (0,0)) x (by rw[o];simp) (by simp[Go.Abs.blk,c,hc]) a e (λi hi=>by omega) (λh=>by obtain⟨J,K,p,_⟩:=hm.fmm b h;rw[hb]at p;cases p) λk=>by
  simp only[ObjOK]
  refine⟨b,cap,by show g.io id=_;rw[c,hn,m], .inr ⟨hc,D.toList.map enc,sp,by omega,?_,by rw[<-d];simp[s],hl,RepL.mono k _ _ A,j⟩⟩
  show(putRow enc (Sort.ahead w q) b 0 D).heap[b]?=_
  rw[e]
  show(w.heap.setIfInBounds b _)[b]?=_
  simp[l]
 obtain⟨C,u,E⟩:=aFe v os
 have B:(putRow enc (Sort.ahead w q) b 0 D).heap.size=w.heap.size:=by
  rw[e];show(w.heap.setIfInBounds b _).size=_;simp
 refine⟨_,C,F.trans u,((z.mono λ_ h=>h.elim).trans H λ_ _ h=>h).trans E λ_ _ h=>h.elim,λb' f=>?_⟩
 rcases I b' ((kM v u b').1 f)with h|h
 ·exact .inl h
 ·exact .inr h
theorem adU{cur:Array Value}{T:TypeId}(hb:w.heap[b]?=some (.cells cur T (0,0)))(i:Nat):w.frozen? ⟨b,i,none⟩=false:=by
 simp[World.frozen?,hb]
theorem asI{g:G}:∀{zs:List Int}{vs:List Value},RepL g (zs.map λz=>PV.val (.int .i64 z)) vs->vs=zs.map (Value.int .i64)
 |[],vs,h=>by simpa[RepL]using h
 |z::zs,vs,h=>by
  simp only[zmp,RepL]at h
  obtain⟨v,c,rfl,a,b⟩:=h
  rw[asI b,aL a];rfl
theorem abZ :∀(zs:List Int),(zs.map λz=>[PV.val (.int .i64 z)]).flatten=zs.map λz=>PV.val (.int .i64 z)
 |[]=>rfl
 |z::zs=>by simp only[zmp,List.flatten_cons,abZ zs];rfl
theorem aGG{ρ:Ren}(E:Lays.n189 P ρ)(hc:jB P (ρ.f 189)=true){zs:List Int}(t:P.cellsOf e=1)(d:st id=some (.arr e (zs.map λz=>[.val (.int .i64 z)])))(hn:zs.length=n)(H:n<4611686018427387904):
  PC P (ρ.f 189) [.vec id 1 0 n] st λ_ S=>S=upd st id (some (.arr e ((zs.mergeSort λx y=>decide (x<=y)).map λz=>[.val (.int .i64 z)]))):=by
 refine⟨hc,λw g vs hm p=>?_⟩
 simp only[RepL]at p
 obtain⟨v,O,rfl,hv,rfl⟩:=p
 simp only[Rep]at hv
 have⟨b,n',cap,i,Q,R,T,hv⟩:=hv
 have c:=hm.obj id _ d
 simp only[ObjOK]at c
 have⟨b',cap',k1,c⟩:=c
 rw[i]at k1;injection k1 with k1;injection k1 with k1 k2;injection k2 with k2 k3;subst k1;subst k3
 rcases c with⟨s,D⟩|⟨s,N,sp,D,o,J,U,F,C⟩
 ·rcases hv with⟨_,a,rfl⟩|⟨h,_⟩
  ·have hz:zs=[]:=by simpa using D
   subst hz;simp only[List.length_nil]at hn;subst hn;refine(Any.slices_Sort_int_none E a 0 w).mono ?_;rintro G w' ⟨rfl,rfl⟩;refine⟨_, .und,st,g,rfl,?_,trivial,hm,Le.refl g,Frame.refl _ _ _,λb hb=> .inl hb⟩;simp only[List.mergeSort_nil];exact(mT d).symm
  ·exact absurd s h
 ·rcases hv with⟨h,_⟩|⟨_,hv⟩
  ·exact absurd h s
  rw[hm.heap]at o;rw[abZ]at F;have m:=asI F;have B:N.length=zs.length:=by rw[m];simp
  have A:=bQ o;rw[Nat.zero_mul,Nat.sub_zero]at hv;subst hv;have I:Holds (Value.int .i64) w b 0 zs.toArray:=λj hj=>by
   refine⟨?_,adU o _⟩
   have u:j<zs.length:=by simpa using hj
   rw[Nat.zero_add,dV o,List.getElem?_toArray,List.getElem?_append_left (by omega),m]
   simp[u]
  have k:(zs.mergeSort λx y=>decide (x<=y)).length=zs.length:=List.length_mergeSort _;have:=Any.slices_Sort_int E b 0 cap zs w I A (by omega);rw[hn]at this;refine this.mono ?_;rintro G w' ⟨rfl,q,os,rfl⟩;have⟨g',m1,K,L,M⟩:=aCt (rows':=(zs.mergeSort λx y=>decide (x<=y)).map λz=>[.val (.int .i64 z)]) hm (Value.int .i64) (zs.mergeSort λx y=>decide (x<=y)).toArray q os d i s k2 (by simp[k]) (by simpa using D) o J (λr p=>by obtain⟨z,_,rfl⟩:=zmq.1 p;rw[t];rfl) (by simp[k,B]) (by
   rw[abZ]
   have:∀(l:List Int),RepL g (l.map λz=>PV.val (.int .i64 z)) (l.map (Value.int .i64)):=λl=>by
    induction l with
    |nil=>simp[RepL]
    |cons z l ih=>simp only[zmp,RepL];exact⟨_,_,rfl,by simp[Rep],ih⟩
   exact this _) C
  exact⟨_, .und,_,g',rfl,rfl,trivial,m1,K,L,M⟩
theorem aiU{α:Type}[Inhabited α]{enc:α->List Value}{k:Nat}(hk:∀x,(enc x).length=k):∀(d:List α)(t:Nat),t<d.length*k->(d.flatMap enc)[t]?=some (enc d[t/k]!)[t%k]!
 |[],t,h=>by simp at h
 |x::d,t,h=>by
  have c:0<k:=by rcases Nat.eq_zero_or_pos k with e|e;subst e;simp at h;exact e
  rw[List.flatMap_cons]
  by_cases ht:t<k
  ·rw[List.getElem?_append_left (by rw[hk];exact ht),Nat.div_eq_of_lt ht,Nat.mod_eq_of_lt ht]
   have:t<(enc x).length:=by rw[hk];exact ht
   simp[this]
  ·rw[List.getElem?_append_right (by rw[hk];omega),hk,aiU hk d (t-k) (by simp only[zlc,Nat.add_mul,Nat.one_mul]at h;omega)]
   have a:t/k=(t-k)/k+1:=by
    conv=>lhs;rw[show t=t-k+k from by omega]
    rw[Nat.add_div_right _ c]
   have b:t%k=(t-k)%k:=by
    conv=>lhs;rw[show t=t-k+k from by omega]
    rw[Nat.add_mod_right]
   rw[a,b];rfl
theorem aFh[Inhabited α]{enc:α->List Value}(hk:∀x,(enc x).length=k)(d:List α):(flatK enc k d.toArray).toList=d.flatMap enc:=by
 apply List.ext_getElem?;intro t;by_cases ht:t<d.length*k
 ·rw[aiU hk d t ht]
  have a:t<(flatK enc k d.toArray).size:=by simpa using ht
  have b:=get_flatK enc k d.toArray t (by simpa using ht);rw[getElem!_pos _ t a]at b;rw[Array.getElem?_toList,Array.getElem?_eq_getElem a,b];simp
 ·have hl:(d.flatMap enc).length=d.length*k:=by
   clear ht
   induction d with
   |nil=>simp
   |cons x d ih=>rw[List.flatMap_cons,zla,hk,ih,zlc,Nat.add_mul];omega
  rw[List.getElem?_eq_none (by simp;omega),List.getElem?_eq_none (by omega)]
theorem acC{g:G}:∀{xs:List Value}{vs:List Value},RepL g (xs.map PV.val) vs->vs=xs
 |[],vs,h=>by simpa[RepL]using h
 |z::zs,vs,h=>by
  simp only[zmp,RepL]at h
  obtain⟨v,c,rfl,a,b⟩:=h
  rw[acC b,aL a]
theorem abN{α:Type}(enc:α->List Value):∀(d:List α),(d.map λx=>(enc x).map PV.val).flatten=(d.flatMap enc).map PV.val
 |[]=>rfl
 |x::d=>by simp only[zmp,List.flatten_cons,abN enc d,List.flatMap_cons,zmd]
theorem aAk[Inhabited α]{enc:α->List Value}{gf:FuncId}{cmp:α->α->Int}(h:∀x y,PF P gf [.agg ((enc x).map .val), .agg ((enc y).map .val)] (.val (.int .i64 (cmp x y))))(b off size:Nat)(w:World):CmpLays P gf #[] enc k cmp b off size w:=by
 intro m os a _ x y;generalize sortWorldK enc k w b off m a os=W;have:=(h x y st0).2 W (G0 W) [.agg (enc x).toArray, .agg (enc y).toArray] (aN4 P W) (by simp only[RepL,Rep];exact⟨_,_,rfl,⟨_,rfl,RepL.vals _⟩,_,_,rfl,⟨_,rfl,RepL.vals _⟩,rfl⟩);refine this.mono ?_;rintro e w' ⟨v,r,st',g',rfl,⟨rfl,rfl⟩,h3,h4,h5,h6,h7⟩;refine⟨by rw[aL h3],w'.drawn-W.drawn,w'.heap.extract W.heap.size w'.heap.size,?_⟩;have hh:w'.heap=W.heap++w'.heap.extract W.heap.size w'.heap.size:=by
  apply Array.ext_getElem?;intro i;by_cases hi:i<W.heap.size
  ·rw[Array.getElem?_append_left hi,(h6.old i hi λ⟨id,g,_⟩=>g rfl).1]
  ·rw[Array.getElem?_append_right (by omega),Array.getElem?_extract]
   have:=h6.size;by_cases hj:i<w'.heap.size
   ·rw[zp (by omega),show W.heap.size+(i-W.heap.size)=i from by omega]
   ·rw[zn (by omega),Array.getElem?_eq_none (by omega)]
 show w'={(W.drewN (w'.drawn-W.drawn))with heap:=W.heap++w'.heap.extract W.heap.size w'.heap.size};rw[<-hh];have hd:W.drawn+(w'.drawn-W.drawn)=w'.drawn:=by have:=h6.tape.2;omega
 have c:=h6.os;have d:=h6.tape.1;have f:=h6.output;cases w'
 simp only[World.drewN]at*;subst c;subst d;subst f;rw[hd]
theorem awK{α:Type}[Inhabited α]{ρ:Ren}(V:SlLaysF0.n6 P ρ)(hc:jB P (ρ.f 6)=true){k:Nat}(X:∀w,(isAgg (ρ.t 24)).run P w= .ok true w)(zE:∀w,(Go.sizeOf (ρ.t 24)).run P w= .ok k w){enc:α->List Value}(hk:∀x,(enc x).length=k)(K:∀x,∀v∈enc x,v.oneCell'=true){cmp:α->α->Int}(hO:SWO (ltOf cmp)){gf:FuncId}(hg:jB P gf=true)
    (L:∀x y,PF P gf [.agg ((enc x).map .val), .agg ((enc y).map .val)] (.val (.int .i64 (cmp x y)))) {st:aD} {id n:Nat} {d:List α} {e:TypeId} (he:P.cellsOf e=k) (p:st id=some (.arr e (d.map λx=>(enc x).map .val))) (hn:d.length=n) (h62:n<4611686018427387904):
    PC P (ρ.f 6) [.vec id k 0 n, .fn gf []] st λ_ S=>∃r:List α,S=upd st id (some (.arr e (r.map λx=>(enc x).map .val)))/\r.Perm d/\r.Pairwise λx y=>¬cmp y x<0:=by
  have eg:∀args w,(callFunc gf args).run P w= .ok (.enter gf args) w:=λargs w=>by
    unfold jB at hg
    split at hg
    · rename_i s N
      rw[zba]at hg;have K :(s.name == "runtime.NumGoroutine") = false :=by simpa using hg.1
      have h2:s.body.isNone=false:=by cases hb:s.body<;>simp_all
      simp only[callFunc,Sem.run_bind,run_program,N,Result.andThen_ok,K,h2,Bool.false_eq_true,if_false,Sem.run_pure]
    · cases hg
  refine⟨hc,λw g vs hm G=>?_⟩
  simp only[RepL]at G
  obtain⟨v,vs',rfl,hv,v2,vs2,rfl,E,rfl⟩:=G
  simp only[Rep]at hv E
  obtain⟨fvs,rfl,B⟩:=E
  simp only[RepL]at B
  subst B
  obtain⟨b,n',cap,C,a1,a2,a3,hv⟩:=hv
  have o:=hm.obj id _ p
  simp only[ObjOK]at o
  obtain⟨b',cap',k1,o⟩:=o
  rw[C]at k1;injection k1 with k1;injection k1 with k1 k2;injection k2 with k2 k3;subst k1;subst k3
  rcases o with⟨H,I⟩|⟨H,W,sp,I,F,k7,k8,U,T⟩
  · rcases hv with⟨_,a,rfl⟩|⟨h,_⟩
    · have hz:d=[]:=by simpa using I
      subst hz;simp only[List.length_nil]at hn;subst hn;refine(AnyF.slices_SortFunc_none V a 0 (.func (.func gf) #[] #[]) w).mono ?_;rintro Y w' ⟨rfl,rfl⟩;exact⟨_, .und,st,g,rfl,⟨[],(mT p).symm, .refl _,List.Pairwise.nil⟩,trivial,hm,Le.refl g,Frame.refl _ _ _,λb hb=> .inl hb⟩
    · exact absurd H h
  · rcases hv with⟨h,_⟩|⟨_,hv⟩
    · exact absurd h H
    rw[hm.heap]at F;rw[abN]at U;have A:=acC U;have D:W.length=d.length*k:=by
      rw[A];clear U k8 k2 I p hn A
      induction d with
      |nil=>simp
      |cons x d ih=>rw[List.flatMap_cons,zla,hk,ih,zlc,Nat.add_mul];omega
    have R:=bQ F;rw[Nat.zero_mul,Nat.sub_zero]at hv;subst hv;have hH:HoldsK enc k w b 0 d.toArray:=λj hj=>by
      refine⟨?_,adU F _⟩
      have c:j<d.length*k:=by simpa using hj
      have J:=aiU hk d j c
      have e3:=get_flatK enc k d.toArray j (by simpa using c)
      rw[Nat.zero_add,dV F,List.getElem?_toArray,List.getElem?_append_left (by omega),A,J,e3]
      simp
    have:=AnyQ.slices_SortFunc V k X zE enc hk K cmp hO gf #[] b 0 cap d.toArray w eg (aAk L b 0 _ w) hH R (by simp;omega);simp only[List.size_toArray,hn]at this;refine this.mono ?_;rintro Y w' ⟨rfl,d',q,os,hp,hs,rfl⟩;have m:d'.size=d.length:=by have:=hp.1;simpa using this
    have u:d'.toList.Perm d:=by
      have:=hp.2.2;have Z:(d'.extract 0 n).toList=d'.toList:=by rw[<-hn,<-m];simp
      have J:(d.toArray.extract 0 n).toList=d:=by rw[<-hn];simp
      rwa[Z,J]at this
    have hl':(d'.toList.flatMap enc).length=W.length:=by
      rw[D,<-m];have:∀(l:List α),(l.flatMap enc).length=l.length*k:=λl=>by
        induction l with
        |nil=>simp
        |cons x d ih=>rw[List.flatMap_cons,zla,hk,ih,zlc,Nat.add_mul];omega
      rw[this];simp
    have M:(flatK enc k d').toList=d'.toList.flatMap enc:=by have:=aFh hk d'.toList;simpa using this
    obtain⟨g',m1,m2,m3,m4⟩:=aCt (rows':=d'.toList.map λx=>(enc x).map .val) hm (λv:Value=>v) (flatK enc k d') q os p C H k2 (by simp[m]) (by simpa using I) F k7 (λr G=>by obtain⟨z,_,rfl⟩:=zmq.1 G;rw[he];simp[hk]) (by simp[D,m]) (by
      rw[abN,M,List.map_id'];exact RepL.vals _) T
    refine⟨_, .und,_,g',rfl,⟨d'.toList,rfl,u,?_⟩,trivial,m1,m2,m3,m4⟩;rw[List.pairwise_iff_getElem];intro i j hi hj Q;have c:j<d'.size:=by simpa using hj
    have O:i<d'.size:=by simpa using hi
    have:=hs i j (Nat.zero_le _) Q (by rw[<-hn,<-m];exact c);unfold ltOf at this;rw[getElem!_pos d' j c,getElem!_pos d' i O]at this
    simpa using this
end
end Go.Abs
